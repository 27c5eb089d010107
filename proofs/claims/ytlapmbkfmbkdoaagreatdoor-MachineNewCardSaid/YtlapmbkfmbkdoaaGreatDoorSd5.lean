/- Part 5 of what the row MachineNew needs, with no condition beyond each lemma's own. -/
import Derived.Test.YtlapmbkfmbkdoaaGreatDoorSd4
section
namespace Go.Proofs.YtlapmbkfmbkdoaaGreatDoor
open Go Go.Fw Go.RowKit
theorem dg_ord {V d i : Nat} (hV : V % 2 ^ (8 * i + 8) = 0) (hd : d < 256) : ∀ k, (if k = i / 8 then dg V (i / 8) ||| (d * 2 ^ (8 * (i % 8)) % 18446744073709551616) else dg V k) = dg (V + d * 2 ^ (8 * i)) k := by
  intro k
  have hi : 8 * i = 64 * (i / 8) + 8 * (i % 8) := by omega
  have hm : i % 8 < 8 := Nat.mod_lt _ (by decide)
  generalize i / 8 = j at *
  generalize i % 8 = r at *
  rw [hi] at hV ⊢
  have h64 : (18446744073709551616 : Nat) = 2 ^ 64 := by decide
  have hB : ∀ k, (18446744073709551616 : Nat) ^ k = 2 ^ (64 * k) := fun k => by rw [h64, ← Nat.pow_mul]
  have hRp : 0 < 2 ^ (8 * r) := Nat.pow_pos (by decide)
  have hR : 2 ^ (8 * r) ≤ 72057594037927936 := by
    have : 2 ^ (8 * r) ≤ 2 ^ 56 := Nat.pow_le_pow_right (by decide) (by omega)
    exact this
  obtain ⟨H, rfl⟩ : ∃ H, V = 2 ^ (64 * j) * (2 ^ (8 * r + 8) * H) := ⟨V / 2 ^ (64 * j + 8 * r + 8), by
    rw [← Nat.mul_assoc, ← Nat.pow_add, show 64 * j + (8 * r + 8) = 64 * j + 8 * r + 8 by omega]
    have := Nat.div_add_mod V (2 ^ (64 * j + 8 * r + 8))
    omega⟩
  have e : ∀ Z, 2 ^ (64 * j) * Z + d * 2 ^ (64 * j + 8 * r) = 2 ^ (64 * j) * (Z + d * 2 ^ (8 * r)) := fun Z => by
    rw [Nat.mul_add, Nat.pow_add, Nat.mul_left_comm d]
  rw [e]
  have h8 : 2 ^ (8 * r + 8) = 2 ^ (8 * r) * 256 := by rw [Nat.pow_add]
  have hdr : d * 2 ^ (8 * r) < 2 ^ (8 * r + 8) := by
    rw [h8, Nat.mul_comm]; exact Nat.mul_lt_mul_of_pos_left hd hRp
  have h88 : 2 ^ (8 * r + 8) ≤ 18446744073709551616 := by rw [h8]; omega
  by_cases hk : k = j
  · subst hk
    rw [if_pos rfl]
    unfold dg
    rw [hB, Nat.mul_div_cancel_left _ (Nat.pow_pos (by decide)), Nat.mul_div_cancel_left _ (Nat.pow_pos (by decide)), Nat.mod_eq_of_lt (by omega : d * 2 ^ (8 * r) < 18446744073709551616)]
    have e64 : (18446744073709551616 : Nat) = 2 ^ (8 * r + 8) * 2 ^ (56 - 8 * r) := by rw [← Nat.pow_add, show 8 * r + 8 + (56 - 8 * r) = 64 by omega]
    have e1 : 2 ^ (8 * r + 8) * H % 18446744073709551616 = 2 ^ (8 * r + 8) * (H % 2 ^ (56 - 8 * r)) := by rw [e64, Nat.mul_mod_mul_left]
    have hY := Nat.mod_lt H (Nat.pow_pos (n := 56 - 8 * r) (by decide : 0 < 2))
    have hs : 2 ^ (8 * r + 8) * (H % 2 ^ (56 - 8 * r)) + d * 2 ^ (8 * r) < 18446744073709551616 := by
      have : 2 ^ (8 * r + 8) * (H % 2 ^ (56 - 8 * r) + 1) ≤ 2 ^ (8 * r + 8) * 2 ^ (56 - 8 * r) := Nat.mul_le_mul_left _ hY
      rw [Nat.mul_add, Nat.mul_one, ← e64] at this
      omega
    rw [e1, ← Nat.two_pow_add_eq_or_of_lt hdr, Nat.add_mod, e1, Nat.mod_eq_of_lt (by omega : d * 2 ^ (8 * r) < 18446744073709551616), Nat.mod_eq_of_lt hs]
  · rw [if_neg hk]
    unfold dg
    rw [hB]
    rcases Nat.lt_or_gt_of_ne hk with h | h
    · obtain ⟨m, rfl⟩ : ∃ m, j = k + 1 + m := ⟨j - k - 1, by omega⟩
      have hz : ∀ Z, 2 ^ (64 * (k + 1 + m)) * Z / 2 ^ (64 * k) % 18446744073709551616 = 0 := fun Z => by
        rw [show 64 * (k + 1 + m) = 64 * k + (64 + 64 * m) by omega, Nat.pow_add, Nat.mul_assoc, Nat.mul_div_cancel_left _ (Nat.pow_pos (by decide)), Nat.pow_add, ← h64, Nat.mul_assoc, Nat.mul_mod_right]
      rw [hz, hz]
    · obtain ⟨m, rfl⟩ : ∃ m, k = j + 1 + m := ⟨k - j - 1, by omega⟩
      have hq : ∀ Z, 2 ^ (64 * j) * Z / 2 ^ (64 * (j + 1 + m)) = Z / 2 ^ (64 * (m + 1)) := fun Z => by
        rw [show 64 * (j + 1 + m) = 64 * j + 64 * (m + 1) by omega, Nat.pow_add, ← Nat.div_div_eq_div_mul, Nat.mul_div_cancel_left _ (Nat.pow_pos (by decide))]
      have hq2 : ∀ t, t < 2 ^ (8 * r + 8) → (2 ^ (8 * r + 8) * H + t) / 2 ^ (64 * (m + 1)) = H / 2 ^ (64 * (m + 1) - (8 * r + 8)) := fun t ht => by
        have e4 : (2 : Nat) ^ (64 * (m + 1)) = 2 ^ (8 * r + 8) * 2 ^ (64 * (m + 1) - (8 * r + 8)) := by rw [← Nat.pow_add]; congr 1; omega
        rw [e4, ← Nat.div_div_eq_div_mul, Nat.mul_add_div (Nat.pow_pos (by decide)), Nat.div_eq_of_lt ht, Nat.add_zero]
      have h0 := hq2 0 (Nat.pow_pos (by decide))
      rw [Nat.add_zero] at h0
      rw [hq, hq, hq2 _ hdr, h0]
theorem wc_ord {V d i off : Nat} (hV : V % 2 ^ (8 * i + 8) = 0) (hd : d < 256) (ho : off = i / 8) : (wc V).set off (.int .u64 ((dg V (i / 8) ||| (d * 2 ^ (8 * (i % 8)) % 18446744073709551616) : Nat) : Int)) = wc (V + d * 2 ^ (8 * i)) := by
  rw [← cells4_dg, ← cells4_dg, cells4_set (f := dg V) (k := i / 8) (v := dg V (i / 8) ||| (d * 2 ^ (8 * (i % 8)) % 18446744073709551616)) ho]
  exact cells4_congr fun k _ => dg_ord hV hd k
theorem p2_256 (k : Nat) : (2 : Nat) ^ (8 * k) = 256 ^ k := by rw [Nat.pow_mul]
def upN (l : List Nat) (i : Nat) : Nat := numB (l.take i) * 256 ^ (l.length - i)
theorem upN_0 (l : List Nat) : upN l 0 = 0 := by simp [upN, numB]
theorem upN_all (l : List Nat) : upN l l.length = numB l := by simp [upN]
theorem upN_mod {l : List Nat} {i : Nat} (h : i < l.length) : upN l i % 2 ^ (8 * (l.length - 1 - i) + 8) = 0 := by
  have e : 8 * (l.length - 1 - i) + 8 = 8 * (l.length - i) := by omega
  rw [e, p2_256, upN, Nat.mul_mod_left]
theorem upN_succ {l : List Nat} {i : Nat} (h : i < l.length) : upN l i + l.getD i 0 * 2 ^ (8 * (l.length - 1 - i)) = upN l (i + 1) := by
  have hg : l.getD i 0 = l[i] := by rw [List.getD_eq_getElem?_getD, List.getElem?_eq_getElem h]; rfl
  rw [p2_256, upN, upN, take_snoc l i h, numB_snoc, hg, Nat.add_mul, show l.length - i = (l.length - (i + 1)) + 1 by omega, Nat.pow_succ, show l.length - 1 - i = l.length - (i + 1) by omega]
  congr 1
  rw [Nat.mul_comm (256 ^ (l.length - (i + 1))) 256, Nat.mul_assoc]
theorem upN_at {l : List Nat} {i k off : Nat} (ho : off = k) (h : k < 4) : (wc (upN l i))[off]? = some (.int .u64 ((dg (upN l i) k : Nat) : Int)) := by
  have := wc_at (upN l i) k h
  subst ho
  simpa using this
theorem dig_40 {x i : Nat} (h : i < 32) : dg x (3 - i / 8) / 2 ^ (56 - 8 * (i % 8)) &&& 255 = x / 256 ^ (31 - i) % 256 := by
  have e : (255 : Nat) = 2 ^ 8 - 1 := by decide
  have h2 : 56 - 8 * (i % 8) = 8 * (7 - i % 8) := by omega
  rw [e, Nat.and_two_pow_sub_one_eq_mod, h2, show (2 : Nat) ^ 8 = 256 from rfl, dg_by8 _ _ _ (by omega)]
  unfold by8
  rw [show 8 * (3 - i / 8) + (7 - i % 8) = 31 - i by omega]
theorem toB_0 (k : Nat) : List.replicate k 0 = toB k 0 := by
  unfold toB
  apply List.ext_getElem?
  intro i
  by_cases h : i < k
  · simp [h]
  · simp [h]
theorem setB_take (S t : Nat) : setB (S % 256 ^ t) t (S / 256 ^ t % 256) = S % 256 ^ (t + 1) := by
  rw [setB_three, Nat.mod_mod, Nat.div_eq_of_lt (Nat.lt_of_lt_of_le (Nat.mod_lt _ (p256_pos t)) (Nat.pow_le_pow_right (by decide) (by omega))), Nat.zero_mul, Nat.add_zero, Nat.pow_succ, Nat.mod_mul, Nat.mul_comm (S / 256 ^ t % 256)]
theorem ints_getB {k n i off : Nat} (h : i < k) (ho : off = i) : (ints (toB k n))[off]? = some (.int .i64 ((n / 256 ^ (k - 1 - i) % 256 : Nat) : Int)) := by
  subst ho; simp [ints, toB_at h]
theorem ints_setB {k V t e off : Nat} {v : Value} (ht : t < k) (he : e < 256) (ho : off = k - 1 - t) (hv : v = .int .i64 ((e : Nat) : Int)) : (ints (toB k V)).set off v = ints (toB k (setB V t e)) := by
  subst hv; subst ho
  rw [← toB_set ht he]; simp [ints, List.map_set]
theorem who_next {v n i : Nat} (h : v < 256 ^ (n - i)) (hi : i < n) (hd : v / 256 ^ (n - 1 - i) % 256 = 0) : v < 256 ^ (n - (i + 1)) := by
  rw [show n - i = (n - 1 - i) + 1 by omega, Nat.pow_succ] at h
  have h2 : v / 256 ^ (n - 1 - i) < 256 := Nat.div_lt_of_lt_mul h
  have h3 : v / 256 ^ (n - 1 - i) = 0 := by
    generalize v / 256 ^ (n - 1 - i) = z at *
    omega
  rw [show n - (i + 1) = n - 1 - i by omega]
  exact Nat.lt_of_div_eq_zero (p256_pos _) h3
theorem who_bad {v n i : Nat} (hi : i < n - 32) (hd : v / 256 ^ (n - 1 - i) % 256 ≠ 0) : ¬ v < 256 ^ 32 := by
  intro h
  have : v / 256 ^ (n - 1 - i) = 0 := Nat.div_eq_of_lt (Nat.lt_of_lt_of_le h (Nat.pow_le_pow_right (by decide) (by omega)))
  rw [this] at hd; exact hd rfl
theorem intsD {xs : List Nat} {i : Nat} (h : i < xs.length) : (ints xs)[i]? = some (.int .i64 ((xs.getD i 0 : Nat) : Int)) := by simp [ints, List.getD_eq_getElem?_getD, h]
end Go.Proofs.YtlapmbkfmbkdoaaGreatDoor
end
section
namespace Go.Proofs.YtlapmbkfmbkdoaaGreatDoor
open Go Go.Fw Go.ChangeShapes Go.RowKit
section
variable {H : Type} {enc : TypeId × Value → H} {w : World} {base fuel : Nat} {spare : Nat → Bool} {held : Bool} {cs : List Value} {x : DataW H × List MemPlace}
end
end Go.Proofs.YtlapmbkfmbkdoaaGreatDoor
end
section
namespace Go.Proofs.YtlapmbkfmbkdoaaGreatDoor
open Go Go.Fw Go.RowKit
attribute [local irreducible] Go.Oper.wp Go.Code.wp Go.wpList Go.Fw.WL Go.Calls
end Go.Proofs.YtlapmbkfmbkdoaaGreatDoor
end
section
namespace Go.Proofs.YtlapmbkfmbkdoaaGreatDoor
open Go Go.Fw Go.RowKit
attribute [local irreducible] Go.Oper.wp Go.Code.wp Go.wpList Go.Fw.WL Go.Calls
theorem rd_app {w : World} {A : Option Addr} {xs ys : List Value} (h : Rd w A (xs ++ ys)) : Rd w A xs := by
  have := h.sub xs.length
  rwa [List.take_left] at this
end Go.Proofs.YtlapmbkfmbkdoaaGreatDoor
end
section
namespace Go.Proofs.YtlapmbkfmbkdoaaGreatDoor
open Go Go.Fw Go.RowKit
attribute [local irreducible] Go.Oper.wp Go.Code.wp Go.wpList Go.Fw.WL Go.Calls
def RetB (n x : Nat) (v : Value) (s : Seg) : Prop := ∃ b, v = .slice (some ⟨b, 0, none⟩) n n ∧ s = [(b, Cel (ints (toB n x)) 3)]
theorem ints_getT {k n t off : Nat} (h : t < k) (ho : off = k - 1 - t) : (ints (toB k n))[off]? = some (.int .i64 ((n / 256 ^ t % 256 : Nat) : Int)) := by
  have := ints_getB (k := k) (n := n) (i := off) (off := off) (by omega) rfl
  rwa [ho, show k - 1 - (k - 1 - t) = t by omega, ← ho] at this
theorem intsO {xs : List Nat} {i off : Nat} (h : i < xs.length) (ho : off = i) : (ints xs)[off]? = some (.int .i64 ((xs.getD i 0 : Nat) : Int)) := by subst ho; exact intsD h
theorem count_wc {n : Nat} (h : n < 18446744073709551616) : [Value.int .u64 ((n % 18446744073709551616 : Nat) : Int), .int .u64 0, .int .u64 0, .int .u64 0] = wc n := by
  have h0 : dg n 0 = n := by rw [dg0]; omega
  have h1 : dg n 1 = 0 := by rw [dg1]; omega
  have h2 : dg n 2 = 0 := by rw [dg2]; omega
  have h3 : dg n 3 = 0 := by rw [dg3]; omega
  simp only [wc, h0, h1, h2, h3, Nat.mod_eq_of_lt h]; rfl
theorem dig_calls (x : Nat) (w0 : World) : Ret Tryz.prog 61 [wv x] w0 [] (RetB 32 x) := by
 refine fn_start Tryz.func61 Y Tryz.ntmps61 Y [(0, wv x)] ⟨Y, trivial⟩ ?_
 intro Q a hP J hR hN
 have G := St.start w0
 refine wp_seq_k fun K1 hK1=> wp_region_lit <| so (wn Y) (O.box Y Y J (J.ev Y) Y G fun b1 a w J G=> ?_)
 refine av J Y Y fun a J=> s0 <| then_n (hK1 _ _ <| wp_seq_k fun K2 hK2=> wp_region_lit <| so (wn Y) (O.makeSlice Y Y J Tryz.underlying61 inf3 Y Y (J.ev Y) (J.ev Y) (by omega) (by omega) (by omega) (by omega) G fun b5 a w J G=> ?_))
 rw [show zeros [Value.int .i64 0] (Int.toNat 32) = mki 32 (fun i => x / 256 ^ (31 - i) % 256) 0 from mki_0 32 _] at G
 refine av J Y Y fun a J=> s0 <| then_n (hK2 _ _ <| wp_seq_k fun K3 hK3=> wp_seq_k fun K4 hK4=> wp_region_lit <| av J Y Y fun a J=> s0 <| then_n (hK4 _ _ <| wp_block <| wp_loop_N (fun g a w=> ∃ (i : Nat), 32 - i = g ∧ Fr 26 [(1, .pointer (some ⟨b1, 0, none⟩)), (3, .slice (some ⟨b5, 0, none⟩) 32 32), (4, .int .i64 ((i : Nat) : Int))] a ∧ St w0 [] [[(b5, Cel (mki 32 (fun i=> x / 256 ^ (31 - i) % 256) i) 3)], [(b1, Cel (wc x) 32)]] w ∧ (i ≤ 32)) (32 - 0) ?_ ?_))
 ·exact ⟨0, Y, J.sub ⟨Y, Y, Y, trivial⟩, G.sel [0, 1] Y Y, by omega⟩
 rintro KL1 g a w ⟨i, hg1, J, G, hi⟩ hKL1
 refine wp_seq_k fun K5 hK5=> wp_seq_k fun K6 hK6=> wp_region_lit <| mv J Y Y fun a J=> lS J Y Y Y fun a J=> s0 <| then_n (hK6 _ _ <| cD J Y (fun c1=> ?_) (fun c1=> ?_))
 ·refine wp_skip <| then_n (hK5 _ _ <| wp_seq_k fun K7 hK7=> wp_block <| wp_region_lit <| mv J Y Y fun a J=> mv J Y Y fun a J=> mv J Y Y fun a J=> sw J Y Y Y (R.quoI (J.ev Y) (J.ev Y) (by omega)) fun a J=> sw J Y Y Y (R.subI (J.ev Y) (J.ev Y) (by omega)) fun a J=> sw J Y Y Y (R.indexA Tryz.underlying32 sz30 (J.ev Y) (J.ev Y) (by omega) (by omega)) fun a J=> sw J Y Y Y (R.load one30 (J.ev Y) G (.t .h) ((by (have h9 := wc_at x (3 - i / 8) (by omega)); simpa using (show (wc x)[((3 : Int) - (i : Int) / 8).toNat * 1]? = _ by rw [show ((3 : Int) - (i : Int) / 8).toNat * 1 = 0 + ((3 - i / 8 : Nat) : Int).toNat * 1 by omega]; exact h9)))) fun a J=> mv J Y Y fun a J=> sw J Y Y Y (R.remI (J.ev Y) (J.ev Y) (by omega)) fun a J=> sw J Y Y Y (R.mulI (J.ev Y) (J.ev Y) (by omega)) fun a J=> sw J Y Y Y (R.subI (J.ev Y) (J.ev Y) (by omega)) fun a J=> sw J Y Y Y (R.shrU (m := 56 - 8 * (i % 8)) (J.ev Y) ((J.ev Y).trans (congrArg (Value.int .i64) (by omega))) (by omega)) fun a J=> sw J Y Y Y (R.as (u := .int .u64 ((x / 256 ^ (31 - i) % 256 : Nat) : Int)) (R.andU (J.ev Y) (J.ev Y) (Nat.lt_of_le_of_lt (Nat.div_le_self _ _) (dg_lt _ _)) (by decide)) (congrArg (fun z : Nat=> Value.int .u64 (z : Int)) (dig_40 (by omega)))) fun a J=> sw J Y Y Y (R.convI Tryz.underlying30 Tryz.underlying3 (J.ev Y) (by omega)) fun a J=> sw J Y Y Y (R.indexS Tryz.underlying61 sz3 (J.ev Y) (J.ev Y) (by omega) (by omega)) fun a J=> so (wn Y) (O.store sz3 (J.ev Y) (J.ev Y) Y Y G .h (mki_at 32 (fun i=> x / 256 ^ (31 - i) % 256) i _ Y) (by rw [length_mki]; omega) fun w G=> ?_))
  refine s0 <| blk_n <| then_n (hK7 _ _ <| wp_region_lit <| mv J Y Y fun a J=> aI J Y Y Y (by omega) fun a J=> av J Y Y fun a J=> s0 <| then_n (hKL1 (32 - (i + 1)) _ _ ?_ ?_))
  ·omega
  exact ⟨i + 1, Y, J.sub ⟨Y, Y, Y, trivial⟩, G.sel [0, 1] Y Y, by omega⟩
 obtain rfl : i = 32 := by omega
 rw [mki_all] at G
 refine wp_exit (then_x (then_x (blk_hit <| then_n (hK3 _ _ <| wp_seq_k fun K8 hK8=> wp_region_lit <| mv J Y Y fun a J=> av J Y Y fun a J=> s0 <| then_n (hK8 _ _ <| wp_ret (hR _ _ _ _ _ J (run_results Tryz.results61 (.t J Y (.nil))) ?_))))))
 exact ⟨_, _, Y, ⟨_, Y, Y⟩, G.one .h⟩
theorem number_calls (A : Option Addr) (c : Nat) (xs : List Nat) (w0 : World) (hA : Rd w0 A (ints xs)) (hB : Byt xs) (hl : xs.length ≤ 32) : Ret Tryz.prog 29 [.slice A xs.length c] w0 [] (fun v s => v = wv (numB xs) ∧ s = []) := by
 refine fn_start Tryz.func29 Y Tryz.ntmps29 Y [(0, .slice A xs.length c)] ⟨Y, trivial⟩ ?_
 intro Q a hP J hR hN
 have G := St.start w0
 refine wp_seq_k fun K1 hK1=> wp_region_lit <| so (wn Y) (O.alloc Y Y J ze32 Y G fun b2 a w J G=> ?_)
 refine s0 <| then_n (hK1 _ _ <| wp_seq_k fun K2 hK2=> wp_region_lit <| so (wn Y) (O.alloc Y Y J ze32 Y G fun b3 a w J G=> ?_))
 refine s0 <| then_n (hK2 _ _ <| wp_seq_k fun K3 hK3=> wp_seq_k fun K4 hK4=> wp_region_lit <| av J Y Y fun a J=> s0 <| then_n (hK4 _ _ <| wp_block <| wp_loop_N (fun g a w=> ∃ (i : Nat), xs.length - i = g ∧ Fr 33 [(0, .slice A xs.length c), (2, .pointer (some ⟨b2, 0, none⟩)), (3, .pointer (some ⟨b3, 0, none⟩)), (4, .int .i64 ((i : Nat) : Int))] a ∧ St w0 [] [[(b3, Cel (wc (upN xs i)) 32)], [(b2, Cel ([.int .u64 0, .int .u64 0, .int .u64 0, .int .u64 0]) 32)]] w ∧ (i ≤ xs.length)) (xs.length - 0) ?_ ?_))
 ·exact ⟨0, Y, J.sub ⟨Y, Y, Y, Y, trivial⟩, G.sel [0, 1] Y (by rw [upN_0]; rfl), by omega⟩
 rintro KL1 g a w ⟨i, hg1, J, G, hi⟩ hKL1
 refine wp_seq_k fun K5 hK5=> wp_seq_k fun K6 hK6=> wp_region_lit <| mv J Y Y fun a J=> mv J Y Y fun a J=> sw J Y Y Y (R.len Tryz.underlying61 (J.ev Y)) fun a J=> lS J Y Y Y fun a J=> s0 <| then_n (hK6 _ _ <| cD J Y (fun c1=> ?_) (fun c1=> ?_))
 ·refine wp_skip <| then_n (hK5 _ _ <| wp_seq_k fun K7 hK7=> wp_block <| wp_seq_k fun K8 hK8=> wp_region_lit <| mv J Y Y fun a J=> sw J Y Y Y (R.len Tryz.underlying61 (J.ev Y)) fun a J=> sw J Y Y Y (R.subI (J.ev Y) (J.ev Y) (by omega)) fun a J=> mv J Y Y fun a J=> sw J Y Y Y (R.subI (J.ev Y) (J.ev Y) (by omega)) fun a J=> av J Y Y fun a J=> s0 <| then_n (hK8 _ _ <| wp_drawS G [(0, 0), (1, 0), (2, 0), (3, 1), (4, 0), (5, 0), (6, 0), (7, 1), (8, 0), (9, 0), (10, 0), (11, 0), (12, 0), (13, 0), (14, 0), (15, 3)] mix (by kernel_rfl) (hP.then.block.then.then.block) fun w G=> ?_))
  have hD := G
  refine dm J Y Y Y fun a J=> dv J Y Y Y Y (fun w=> R.quoI (J.ev Y) (J.ev Y) (by omega)) fun a J=> dv J Y Y Y Y (fun w=> R.indexA Tryz.underlying32 sz30 (J.ev Y) (J.ev Y) (by omega) (by omega)) fun a J=> ds J Y Y Y Y hD (fun w hD=> R.load one30 (J.ev Y) hD .h (upN_at (k := (xs.length - 1 - i) / 8) (by omega) (by omega))) fun a J=> ?_
  refine dm J Y Y Y fun a J=> dm J Y Y Y fun a J=> dv J Y Y Y Y (fun w=> R.indexO Tryz.underlying61 sz3 (J.ev Y) (Rd.ne hA (by rw [length_ints]; omega)) (J.ev Y) (by omega) (by omega)) fun a J=> ds J Y Y Y Y hD (fun w hD=> R.loadO one3 (J.ev Y) (hA.old hD) (intsO (i := i) (by omega) (by omega))) fun a J=> ?_
  refine dv J Y Y Y Y (fun w=> R.as (u := .int .u64 ((xs.getD i 0 : Nat) : Int)) (R.convU Tryz.underlying3 Tryz.underlying30 (J.ev Y)) (congrArg (fun z : Nat=> Value.int .u64 (z : Int)) (Nat.mod_eq_of_lt (by have := byt_getD hB i; omega)))) fun a J=> dm J Y Y Y fun a J=> dv J Y Y Y Y (fun w=> R.remI (J.ev Y) (J.ev Y) (by omega)) fun a J=> dv J Y Y Y Y (fun w=> R.mulI (J.ev Y) (J.ev Y) (by omega)) fun a J=> dv J Y Y Y Y (fun w=> R.shlU (m := 8 * ((xs.length - 1 - i) % 8)) (J.ev Y) ((J.ev Y).trans (congrArg (Value.int .i64) (by omega))) (by omega)) fun a J=> dv J Y Y Y Y (fun w=> R.orU (J.ev Y) (J.ev Y) (dg_lt _ _) (Nat.mod_lt _ (by decide))) fun a J=> dv J Y Y Y Y (fun w=> R.indexA Tryz.underlying32 sz30 (J.ev Y) (J.ev Y) (by omega) (by omega)) fun a J=> dw Y (wn Y) (O.store sz30 (J.ev Y) (J.ev Y) Y Y G .h (wc_ord (V := upN xs i) (i := xs.length - 1 - i) (upN_mod (by omega)) (byt_getD hB i) (by omega)) (by show _ < 4; omega) fun w G=> ?_)
  rw [upN_succ (by omega)] at G
  refine d0 <| blk_n <| then_n (hK7 _ _ <| wp_region_lit <| mv J Y Y fun a J=> aI J Y Y Y (by omega) fun a J=> av J Y Y fun a J=> s0 <| then_n (hKL1 (xs.length - (i + 1)) _ _ ?_ ?_))
  ·omega
  exact ⟨i + 1, Y, J.sub ⟨Y, Y, Y, (congrArg (fun z => some (Value.int .i64 z)) (by omega)), trivial⟩, G.sel [0, 1] Y Y, by omega⟩
 obtain rfl : i = xs.length := by omega
 rw [upN_all] at G
 refine wp_exit (then_x (then_x (blk_hit <| then_n (hK3 _ _ <| wp_seq_k fun K9 hK9=> wp_region_lit <| sw J Y Y Y (R.loadW agg32 (J.ev Y) G .h sz32 (Y)) fun a J=> so (wn Y) (O.storeW sz32 (J.ev Y) (J.ev Y) (Y) Y (by simp [Value.oneCell']) G (.t .h) (Y) fun w G=> ?_)))))
 refine s0 <| then_n (hK9 _ _ <| wp_ret (hR _ _ _ _ _ J (run_results Tryz.results29 (.cw J Y agg32 G (.t .h) sz32 (Y) (.nil))) ?_))
 exact ⟨_, [], Y, ⟨Y, Y⟩, G.none⟩
theorem rcount_calls (n : Nat) (w0 : World) (hn : n < 18446744073709551616) : Ret Tryz.prog 60 [.int .i64 ((n : Nat) : Int)] w0 [] (fun v s => v = wv (n) ∧ s = []) := by
 refine fn_start Tryz.func60 Y Tryz.ntmps60 Y [(0, .int .i64 ((n : Nat) : Int))] ⟨Y, trivial⟩ ?_
 intro Q a hP J hR hN
 have G := St.start w0
 refine wp_seq_k fun K1 hK1=> wp_region_lit <| so (wn Y) (O.alloc Y Y J ze32 Y G fun b2 a w J G=> ?_)
 refine s0 <| then_n (hK1 _ _ <| wp_seq_k fun K2 hK2=> wp_region_lit <| mv J Y Y fun a J=> sw J Y Y Y (R.convU Tryz.underlying3 Tryz.underlying30 (J.ev Y)) fun a J=> sw J Y Y Y (R.buildArr (l := [_, _, _, _]) Tryz.underlying32 ze32 sz30 (J.evp Y) Y) fun a J=> so (wn Y) (O.storeW sz32 (J.ev Y) (J.ev Y) (Y) Y (by simp [Value.oneCell']) G .h (Y) fun w G=> ?_))
 refine s0 <| then_n (hK2 _ _ <| wp_ret (hR _ _ _ _ _ J (run_results Tryz.results60 (.cw J Y agg32 G .h sz32 (Y) (.nil))) ?_))
 exact ⟨_, [], Y, ⟨congrArg (fun l : List Value => Value.agg l.toArray) (count_wc (by omega)), Y⟩, G.none⟩
end Go.Proofs.YtlapmbkfmbkdoaaGreatDoor
end
section
namespace Go.Proofs.YtlapmbkfmbkdoaaGreatDoor
open Go Go.Fw Go.RowKit
attribute [local irreducible] Go.Oper.wp Go.Code.wp Go.wpList Go.Fw.WL Go.Calls
theorem R.mulN {P : Program} {ρ : Operand → Value} {w : World} {dst : Option Tmp} {ty : TypeId} {pos : String} {af : Array Edge} {g : Option (Nat × Bool)} {x y : Operand} {T T' : TypeId} {p q : Nat} (hx : ρ x = .int .i64 ((p : Nat) : Int)) (hy : ρ y = .int .i64 ((q : Nat) : Int)) (h : p * q ≤ 1000000) :
    (execOp ρ ⟨dst, .binOp .mul T x y T', ty, pos, af, g⟩).run P w = .ok (.value (.int .i64 ((p * q : Nat) : Int))) w := by
  have := R.mulI (P := P) (w := w) (dst := dst) (ty := ty) (pos := pos) (af := af) (g := g) (T := T) (T' := T') hx hy (by rw [← Int.natCast_mul]; omega)
  rw [this, Int.natCast_mul]
theorem sum_lt33 {x y : Nat} (hx : x < 256 ^ 32) (hy : y < 256 ^ 32) : x + y < 256 ^ (32 + 1) := by
  have h33 : (256 : Nat) ^ (32 + 1) = 256 * 256 ^ 32 := by rw [Nat.pow_succ, Nat.mul_comm]
  omega
theorem plus_calls (A B : Option Addr) (c d x y : Nat) (w0 : World) (hA : Rd w0 A (ints (toB 32 x))) (hB : Rd w0 B (ints (toB 32 y))) (hx : x < 256 ^ 32) (hy : y < 256 ^ 32) : Ret Tryz.prog 95 [.slice A 32 c, .slice B 32 d] w0 [] (RetB 33 (x + y)) := by
 refine fn_start Tryz.func95 Y Tryz.ntmps95 Y [(0, .slice A 32 c), (1, .slice B 32 d)] ⟨Y, Y, trivial⟩ ?_
 intro Q a hP J hR hN
 have G := St.start w0
 refine wp_seq_k fun K1 hK1=> wp_region_lit <| av J Y Y fun a J=> s0 <| then_n (hK1 _ _ <| wp_seq_k fun K2 hK2=> wp_region_lit <| mv J Y Y fun a J=> sw J Y Y Y (R.len Tryz.underlying61 (J.ev Y)) fun a J=> aI J Y Y Y (by omega) fun a J=> so (wn Y) (O.makeSlice Y Y J Tryz.underlying61 inf3 Y Y (J.ev Y) (J.ev Y) (by omega) (by omega) (by omega) (by omega) G fun b12 a w J G=> ?_))
 rw [show zeros [Value.int .i64 0] (Int.toNat (((32 : Nat) : Int) + 1)) = ints (toB 33 ((x + y) % 256 ^ 0)) from by (rw [Nat.pow_zero, Nat.mod_one, ← toB_0]; exact zeros_ints 33)] at G
 refine av J Y Y fun a J=> s0 <| then_n (hK2 _ _ <| wp_seq_k fun K3 hK3=> wp_region_lit <| av J Y Y fun a J=> s0 <| then_n (hK3 _ _ <| wp_seq_k fun K4 hK4=> wp_seq_k fun K5 hK5=> wp_region_lit <| mv J Y Y fun a J=> sw J Y Y Y (R.len Tryz.underlying61 (J.ev Y)) fun a J=> sw J Y Y Y (R.subI (J.ev Y) (J.ev Y) (by omega)) fun a J=> av J Y Y fun a J=> s0 <| then_n (hK5 _ _ <| wp_block <| wp_loop_N (fun g a w=> ∃ (t : Nat), 32 - t = g ∧ Fr 43 [(0, .slice A 32 c), (1, .slice B 32 d), (5, .slice (some ⟨b12, 0, none⟩) 33 33), (6, .int .i64 ((cyB x y t : Nat) : Int)), (7, .int .i64 (31 - ((t : Nat) : Int)))] a ∧ St w0 [] [[(b12, Cel (ints (toB 33 ((x + y) % 256 ^ t))) 3)]] w ∧ (t ≤ 32)) (32 - 0) ?_ ?_)))
 ·exact ⟨0, Y, J.sub ⟨Y, Y, Y, (by rw [cyB_0]; rfl), Y, trivial⟩, G.sel [0] Y Y, by omega⟩
 rintro KL1 g a w ⟨t, hg1, J, G, ht⟩ hKL1
 have hdx : x / 256 ^ t % 256 < 256 := Nat.mod_lt _ (by decide); have hdy : y / 256 ^ t % 256 < 256 := Nat.mod_lt _ (by decide); have hcy := cyB_le x y t
 refine wp_seq_k fun K6 hK6=> wp_seq_k fun K7 hK7=> wp_region_lit <| mv J Y Y fun a J=> sw J Y Y Y (R.geq (J.ev Y) (J.ev Y)) fun a J=> s0 <| then_n (hK7 _ _ <| cD J Y (fun c1=> ?_) (fun c1=> ?_))
 ·refine wp_skip <| then_n (hK6 _ _ <| wp_seq_k fun K8 hK8=> wp_block <| wp_seq_k fun K9 hK9=> wp_drawS G [(0, 0), (1, 0), (2, 0), (3, 1), (4, 0), (5, 0), (6, 0), (7, 1), (8, 0), (9, 0), (10, 0), (11, 0)] mix (by kernel_rfl) (hP.then.block.then.then.block.then) fun w G=> ?_)
  have hD := G
  refine dm J Y Y Y fun a J=> dm J Y Y Y fun a J=> dv J Y Y Y Y (fun w=> R.indexO Tryz.underlying61 sz3 (J.ev Y) (Rd.ne hA (by rw [length_ints, length_toB]; omega)) (J.ev Y) (by omega) (by omega)) fun a J=> ds J Y Y Y Y hD (fun w hD=> R.loadO one3 (J.ev Y) (hA.old hD) (ints_getT (t := t) (by omega) (by omega))) fun a J=> ?_
  refine dm J Y Y Y fun a J=> dm J Y Y Y fun a J=> dv J Y Y Y Y (fun w=> R.indexO Tryz.underlying61 sz3 (J.ev Y) (Rd.ne hB (by rw [length_ints, length_toB]; omega)) (J.ev Y) (by omega) (by omega)) fun a J=> ds J Y Y Y Y hD (fun w hD=> R.loadO one3 (J.ev Y) (hB.old hD) (ints_getT (t := t) (by omega) (by omega))) fun a J=> ?_
  refine dv J Y Y Y Y (fun w=> R.addI (J.ev Y) (J.ev Y) (by omega)) fun a J=> dm J Y Y Y fun a J=> dv J Y Y Y Y (fun w=> R.addI (J.ev Y) (J.ev Y) (by omega)) fun a J=> da J Y Y Y fun a J=> d0 <| then_n (hK9 _ _ <| wp_seq_k fun K10 hK10=> wp_region_lit <| mv J Y Y fun a J=> mv J Y Y fun a J=> aI J Y Y Y (by omega) fun a J=> mv J Y Y fun a J=> sw J Y Y Y (R.remI (J.ev Y) (J.ev Y) (by omega)) fun a J=> sw J Y Y Y (R.indexS Tryz.underlying61 sz3 (J.ev Y) (J.ev Y) (by omega) (by omega)) fun a J=> so (wn Y) (O.store sz3 (J.ev Y) (J.ev Y) Y Y G .h (ints_setB (k := 33) (t := t) (e := (x + y) / 256 ^ t % 256) (by omega) (Nat.mod_lt _ (by decide)) (by omega) (congrArg (Value.int .i64) (by have := plus_dig x y t; omega))) (by rw [length_ints, length_toB]; omega) fun w G=> ?_))
  rw [setB_take] at G
  refine s0 <| then_n (hK10 _ _ <| wp_region_lit <| mv J Y Y fun a J=> sw J Y Y Y (R.quoI (J.ev Y) (J.ev Y) (by omega)) fun a J=> av J Y Y fun a J=> s0 <| blk_n <| then_n (hK8 _ _ <| wp_region_lit <| mv J Y Y fun a J=> sw J Y Y Y (R.subI (J.ev Y) (J.ev Y) (by omega)) fun a J=> av J Y Y fun a J=> s0 <| then_n (hKL1 (32 - (t + 1)) _ _ ?_ ?_)))
  ·omega
  exact ⟨t + 1, Y, J.sub ⟨Y, Y, Y, (congrArg (fun z => some (Value.int .i64 z)) (by have := plus_cy x y t; omega)), (congrArg (fun z => some (Value.int .i64 z)) (by omega)), trivial⟩, G.sel [0] Y Y, by omega⟩
 obtain rfl : t = 32 := by omega
 refine wp_exit (then_x (then_x (blk_hit <| then_n (hK4 _ _ <| wp_seq_k fun K11 hK11=> wp_region_lit <| mv J Y Y fun a J=> mv J Y Y fun a J=> sw J Y Y Y (R.indexS Tryz.underlying61 sz3 (J.ev Y) (J.ev Y) (by omega) (by omega)) fun a J=> so (wn Y) (O.store sz3 (J.ev Y) (J.ev Y) Y Y G .h (ints_setB (k := 33) (t := 32) (e := (x + y) / 256 ^ 32 % 256) (by omega) (Nat.mod_lt _ (by decide)) (by omega) (by rw [cyB_top hx hy])) (by rw [length_ints, length_toB]; omega) fun w G=> ?_)))))
 rw [setB_take, Nat.mod_eq_of_lt (sum_lt33 hx hy)] at G
 refine s0 <| then_n (hK11 _ _ <| wp_seq_k fun K12 hK12=> wp_region_lit <| mv J Y Y fun a J=> av J Y Y fun a J=> s0 <| then_n (hK12 _ _ <| wp_ret (hR _ _ _ _ _ J (run_results Tryz.results95 (.t J Y (.nil))) ?_)))
 exact ⟨_, _, Y, ⟨_, Y, Y⟩, G.one .h⟩
theorem wholly_calls (A : Option Addr) (n c v : Nat) (w0 : World) (hA : Rd w0 A (ints (toB n v))) (hn : 32 ≤ n ∧ n ≤ 64) (hv : v < 256 ^ n) : Ret Tryz.prog 96 [.slice A n c] w0 [] (fun u s => u = .bool (decide (v < 256 ^ 32)) ∧ s = []) := by
 refine fn_start Tryz.func96 Y Tryz.ntmps96 Y [(0, .slice A n c)] ⟨Y, trivial⟩ ?_
 intro Q a hP J hR hN
 have G := St.start w0
 refine wp_seq_k fun K1 hK1=> wp_region_lit <| av J Y Y fun a J=> s0 <| then_n (hK1 _ _ <| wp_seq_k fun K2 hK2=> wp_seq_k fun K3 hK3=> wp_region_lit <| av J Y Y fun a J=> s0 <| then_n (hK3 _ _ <| wp_block <| wp_loop_N (fun g a w=> ∃ (i : Nat), n - i = g ∧ Fr 16 [(0, .slice A n c), (3, .int .i64 ((i : Nat) : Int))] a ∧ St w0 [] [] w ∧ (i ≤ n - 32) ∧ (v < 256 ^ (n - i))) (n - 0) ?_ ?_))
 ·exact ⟨0, Y, J.sub ⟨Y, Y, trivial⟩, G.sel [] Y Y, by omega, hv⟩
 rintro KL1 g a w ⟨i, hg1, J, G, hi, hvi⟩ hKL1
 have hdd : v / 256 ^ (n - 1 - i) % 256 < 256 := Nat.mod_lt _ (by decide)
 refine wp_seq_k fun K4 hK4=> wp_seq_k fun K5 hK5=> wp_region_lit <| mv J Y Y fun a J=> mv J Y Y fun a J=> sw J Y Y Y (R.len Tryz.underlying61 (J.ev Y)) fun a J=> sw J Y Y Y (R.subI (J.ev Y) (J.ev Y) (by omega)) fun a J=> lS J Y Y Y fun a J=> s0 <| then_n (hK5 _ _ <| cD J Y (fun c1=> ?_) (fun c1=> ?_))
 ·refine wp_skip <| then_n (hK4 _ _ <| wp_seq_k fun K6 hK6=> wp_block <| wp_seq_k fun K7 hK7=> wp_region_lit <| mv J Y Y fun a J=> mv J Y Y fun a J=> sw J Y Y Y (R.indexO Tryz.underlying61 sz3 (J.ev Y) (Rd.ne hA (by rw [length_ints, length_toB]; omega)) (J.ev Y) (by omega) (by omega)) fun a J=> sw J Y Y Y (R.loadO one3 (J.ev Y) (hA.old G) (ints_getB (i := i) (by omega) (by omega))) fun a J=> sw J Y Y Y (R.neq (J.ev Y) (J.ev Y)) fun a J=> s0 <| then_n (hK7 _ _ <| cD J Y (fun c2=> ?_) (fun c2=> ?_)))
  ·refine wp_seq_k fun K8 hK8=> wp_region_lit <| av J Y Y fun a J=> s0 <| then_n (hK8 _ _ <| wp_ret (blk_r (then_r (then_r (blk_r (then_r (hR _ _ _ _ _ J (run_results Tryz.results96 (.t J Y (.nil))) ?_)))))))
   exact ⟨_, [], Y, ⟨by rw [decide_eq_false (who_bad (n := n) (i := i) (by omega) (by omega))]; rfl, Y⟩, G.none⟩
  refine wp_skip <| blk_n <| then_n (hK6 _ _ <| wp_region_lit <| mv J Y Y fun a J=> aI J Y Y Y (by omega) fun a J=> av J Y Y fun a J=> s0 <| then_n (hKL1 (n - (i + 1)) _ _ ?_ ?_))
  ·omega
  exact ⟨i + 1, Y, J.sub ⟨Y, (congrArg (fun z => some (Value.int .i64 z)) (by omega)), trivial⟩, G.sel [] Y Y, by omega, who_next hvi (by omega) (by omega)⟩
 refine wp_exit (then_x (then_x (blk_hit <| then_n (hK2 _ _ <| wp_seq_k fun K9 hK9=> wp_region_lit <| av J Y Y fun a J=> s0 <| then_n (hK9 _ _ <| wp_ret (hR _ _ _ _ _ J (run_results Tryz.results96 (.t J Y (.nil))) ?_))))))
 exact ⟨_, [], Y, ⟨by rw [decide_eq_true (by rwa [show n - i = 32 by omega] at hvi)]; rfl, Y⟩, G.none⟩
end Go.Proofs.YtlapmbkfmbkdoaaGreatDoor
end
section
namespace Go.Proofs.YtlapmbkfmbkdoaaGreatDoor
open Go Go.Fw Go.RowKit
attribute [local irreducible] Go.Oper.wp Go.Code.wp Go.wpList Go.Fw.WL Go.Calls
theorem rd_tail {w : World} {b n j v : Nat} (h : Rd w (some ⟨b, 0, none⟩) (ints (toB (n + j) v))) : Rd w (some ⟨b, j, none⟩) (ints (toB n v)) := by
  intro i u hu
  have e : (ints (toB (n + j) v))[j + i]? = some u := by
    have hd : toB n v = (toB (n + j) v).drop j := by rw [toB_drop j (by omega), Nat.add_sub_cancel]
    rw [hd] at hu
    unfold ints at hu ⊢
    rw [List.getElem?_map, List.getElem?_drop] at hu
    rw [List.getElem?_map]; exact hu
  obtain ⟨a, ha, hc⟩ := h (j + i) u e
  refine ⟨_, rfl, ?_⟩
  simp only [Option.some.injEq] at ha
  subst ha
  by_cases hi : i = 0 <;> by_cases hj : j = 0 <;> simp_all [Addr.add]
set_option maxHeartbeats 1000000 in
theorem timesB_calls (A B : Option Addr) (c d x y : Nat) (w0 : World) (hA : Rd w0 A (ints (toB 32 x))) (hB : Rd w0 B (ints (toB 32 y))) (hx : x < 256 ^ 32) (hy : y < 256 ^ 32) : Ret Tryz.prog 99 [.slice A 32 c, .slice B 32 d] w0 [] (RetB 64 (x * y)) := by
 refine fn_start Tryz.func99 Y Tryz.ntmps99 Y [(0, .slice A 32 c), (1, .slice B 32 d)] ⟨Y, Y, trivial⟩ ?_
 intro Q a hP J hR hN
 have G := St.start w0
 refine wp_seq_k fun K1 hK1=> wp_region_lit <| av J Y Y fun a J=> s0 <| then_n (hK1 _ _ <| wp_seq_k fun K2 hK2=> wp_region_lit <| so (wn Y) (O.makeSlice Y Y J Tryz.underlying61 inf3 Y Y (J.ev Y) (J.ev Y) (by omega) (by omega) (by omega) (by omega) G fun b10 a w J G=> ?_))
 rw [show zeros [Value.int .i64 0] (Int.toNat 64) = ints (toB 64 (x % 256 ^ 0 * y)) from by (rw [Nat.pow_zero, Nat.mod_one, Nat.zero_mul, ← toB_0]; exact zeros_ints 64)] at G
 refine av J Y Y fun a J=> s0 <| then_n (hK2 _ _ <| wp_seq_k fun K3 hK3=> wp_seq_k fun K4 hK4=> wp_region_lit <| av J Y Y fun a J=> s0 <| then_n (hK4 _ _ <| wp_block <| wp_loop_N (fun g a w=> ∃ (t : Nat), 32 - t = g ∧ Fr 56 [(0, .slice A 32 c), (1, .slice B 32 d), (5, .slice (some ⟨b10, 0, none⟩) 64 64), (6, .int .i64 (31 - ((t : Nat) : Int)))] a ∧ St w0 [] [[(b10, Cel (ints (toB 64 (x % 256 ^ t * y))) 3)]] w ∧ (t ≤ 32)) (32 - 0) ?_ ?_))
 ·exact ⟨0, Y, J.sub ⟨Y, Y, Y, Y, trivial⟩, G.sel [0] Y Y, by omega⟩
 rintro KL1 g a w ⟨t, hg1, J, G, ht⟩ hKL1
 refine wp_seq_k fun K5 hK5=> wp_seq_k fun K6 hK6=> wp_region_lit <| mv J Y Y fun a J=> sw J Y Y Y (R.geq (J.ev Y) (J.ev Y)) fun a J=> s0 <| then_n (hK6 _ _ <| cD J Y (fun c1=> ?_) (fun c1=> ?_))
 ·refine wp_skip <| then_n (hK5 _ _ <| wp_seq_k fun K7 hK7=> wp_block <| wp_seq_k fun K8 hK8=> wp_region_lit <| av J Y Y fun a J=> s0 <| then_n (hK8 _ _ <| wp_seq_k fun K9 hK9=> wp_seq_k fun K10 hK10=> wp_region_lit <| av J Y Y fun a J=> s0 <| then_n (hK10 _ _ <| wp_block <| wp_loop_N (fun g a w=> ∃ (u : Nat) (V : Nat) (cc : Nat), 32 - u = g ∧ Fr 56 [(0, .slice A 32 c), (1, .slice B 32 d), (5, .slice (some ⟨b10, 0, none⟩) 64 64), (6, .int .i64 (31 - ((t : Nat) : Int))), (7, .int .i64 ((cc : Nat) : Int)), (8, .int .i64 (31 - ((u : Nat) : Int)))] a ∧ St w0 [] [[(b10, Cel (ints (toB 64 (V))) 3)]] w ∧ (u ≤ 32) ∧ (V + cc * 256 ^ (t + u) = x % 256 ^ t * y + x / 256 ^ t % 256 * (y % 256 ^ u) * 256 ^ t) ∧ (cc < 256) ∧ (V < 256 ^ (t + 32))) (32 - 0) ?_ ?_)))
  ·exact ⟨0, x % 256 ^ t * y, 0, Y, J.sub ⟨Y, Y, Y, Y, Y, Y, trivial⟩, G.sel [0] Y Y, by omega, (by rw [Nat.pow_zero, Nat.mod_one]; simp), by decide, rows_lt hy⟩
  rintro KL2 g a w ⟨u, V, cc, hg2, J, G, hu, hv, hcc, hV⟩ hKL2
  have hdx : x / 256 ^ t % 256 < 256 := Nat.mod_lt _ (by decide); have hdy : y / 256 ^ u % 256 < 256 := Nat.mod_lt _ (by decide); have hdv : V / 256 ^ (t + u) % 256 < 256 := Nat.mod_lt _ (by decide); have hmu : x / 256 ^ t % 256 * (y / 256 ^ u % 256) ≤ 255 * 255 := Nat.mul_le_mul (by omega) (by omega)
  refine wp_seq_k fun K11 hK11=> wp_seq_k fun K12 hK12=> wp_region_lit <| mv J Y Y fun a J=> sw J Y Y Y (R.geq (J.ev Y) (J.ev Y)) fun a J=> s0 <| then_n (hK12 _ _ <| cD J Y (fun c2=> ?_) (fun c2=> ?_))
  ·refine wp_skip <| then_n (hK11 _ _ <| wp_seq_k fun K13 hK13=> wp_block <| wp_seq_k fun K14 hK14=> wp_drawS G [(0, 0), (1, 0), (2, 0), (3, 0), (4, 0), (5, 0), (6, 1), (7, 0), (8, 0), (9, 0), (10, 1), (11, 0), (12, 0), (13, 0), (14, 1), (15, 0), (16, 0), (17, 0), (18, 0), (19, 0)] mix (by kernel_rfl) (hP.then.block.then.then.block.then.block.then.then.block.then) fun w G=> ?_)
   have hD := G
   refine dm J Y Y Y fun a J=> dm J Y Y Y fun a J=> dm J Y Y Y fun a J=> dv J Y Y Y Y (fun w=> R.addI (J.ev Y) (J.ev Y) (by omega)) fun a J=> dv J Y Y Y Y (fun w=> R.addI (J.ev Y) (J.ev Y) (by omega)) fun a J=> dv J Y Y Y Y (fun w=> R.indexS Tryz.underlying61 sz3 (J.ev Y) (J.ev Y) (by omega) (by omega)) fun a J=> ds J Y Y Y Y hD (fun w hD=> R.load one3 (J.ev Y) hD .h (ints_getT (t := t + u) (by omega) (by omega))) fun a J=> ?_
   refine dm J Y Y Y fun a J=> dm J Y Y Y fun a J=> dv J Y Y Y Y (fun w=> R.indexO Tryz.underlying61 sz3 (J.ev Y) (Rd.ne hA (by rw [length_ints, length_toB]; omega)) (J.ev Y) (by omega) (by omega)) fun a J=> ds J Y Y Y Y hD (fun w hD=> R.loadO one3 (J.ev Y) (hA.old hD) (ints_getT (t := t) (by omega) (by omega))) fun a J=> ?_
   refine dm J Y Y Y fun a J=> dm J Y Y Y fun a J=> dv J Y Y Y Y (fun w=> R.indexO Tryz.underlying61 sz3 (J.ev Y) (Rd.ne hB (by rw [length_ints, length_toB]; omega)) (J.ev Y) (by omega) (by omega)) fun a J=> ds J Y Y Y Y hD (fun w hD=> R.loadO one3 (J.ev Y) (hB.old hD) (ints_getT (t := u) (by omega) (by omega))) fun a J=> ?_
   refine dv J Y Y Y Y (fun w=> R.mulN (p := x / 256 ^ t % 256) (q := y / 256 ^ u % 256) (J.ev Y) (J.ev Y) (by omega)) fun a J=> dv J Y Y Y Y (fun w=> R.addI (J.ev Y) (J.ev Y) (by omega)) fun a J=> dm J Y Y Y fun a J=> dv J Y Y Y Y (fun w=> R.addI (J.ev Y) (J.ev Y) (by omega)) fun a J=> da J Y Y Y fun a J=> d0 <| then_n (hK14 _ _ <| wp_seq_k fun K15 hK15=> wp_region_lit <| mv J Y Y fun a J=> mv J Y Y fun a J=> mv J Y Y fun a J=> aI J Y Y Y (by omega) fun a J=> aI J Y Y Y (by omega) fun a J=> mv J Y Y fun a J=> sw J Y Y Y (R.remI (J.ev Y) (J.ev Y) (by omega)) fun a J=> sw J Y Y Y (R.indexS Tryz.underlying61 sz3 (J.ev Y) (J.ev Y) (by omega) (by omega)) fun a J=> so (wn Y) (O.store sz3 (J.ev Y) (J.ev Y) Y Y G .h (ints_setB (k := 64) (t := t + u) (e := (V / 256 ^ (t + u) % 256 + x / 256 ^ t % 256 * (y / 256 ^ u % 256) + cc) % 256) (by omega) (Nat.mod_lt _ (by decide)) (by omega) (congrArg (Value.int .i64) (by omega))) (by rw [length_ints, length_toB]; omega) fun w G=> ?_))
   refine s0 <| then_n (hK15 _ _ <| wp_region_lit <| mv J Y Y fun a J=> sw J Y Y Y (R.quoI (J.ev Y) (J.ev Y) (by omega)) fun a J=> av J Y Y fun a J=> s0 <| blk_n <| then_n (hK13 _ _ <| wp_region_lit <| mv J Y Y fun a J=> sw J Y Y Y (R.subI (J.ev Y) (J.ev Y) (by omega)) fun a J=> av J Y Y fun a J=> s0 <| then_n (hKL2 (32 - (u + 1)) _ _ ?_ ?_)))
   ·omega
   exact ⟨u + 1, setB V (t + u) ((V / 256 ^ (t + u) % 256 + x / 256 ^ t % 256 * (y / 256 ^ u % 256) + cc) % 256), (V / 256 ^ (t + u) % 256 + x / 256 ^ t % 256 * (y / 256 ^ u % 256) + cc) / 256, Y, J.sub ⟨Y, Y, Y, Y, (congrArg (fun z => some (Value.int .i64 z)) (by omega)), (congrArg (fun z => some (Value.int .i64 z)) (by omega)), trivial⟩, G.sel [0] Y Y, by omega, row_step hv, row_carry hdv hdx hdy hcc, setB_lt hV (by omega) (Nat.mod_lt _ (by decide))⟩
  obtain rfl : u = 32 := by omega
  have hre := row_end hy hv hV hcc
  refine wp_exit (then_x (then_x (blk_hit <| then_n (hK9 _ _ <| wp_region_lit <| mv J Y Y fun a J=> mv J Y Y fun a J=> sw J Y Y Y (R.indexS Tryz.underlying61 sz3 (J.ev Y) (J.ev Y) (by omega) (by omega)) fun a J=> sw J Y Y Y (R.load one3 (J.ev Y) G .h (ints_getT (t := t + 32) (by omega) (by omega))) fun a J=> mv J Y Y fun a J=> aI J Y Y Y (by omega) fun a J=> sw J Y Y Y (R.indexS Tryz.underlying61 sz3 (J.ev Y) (J.ev Y) (by omega) (by omega)) fun a J=> so (wn Y) (O.store sz3 (J.ev Y) (J.ev Y) Y Y G .h (ints_setB (k := 64) (t := t + 32) (e := cc) (by omega) hcc (by omega) (congrArg (Value.int .i64) (by have := hre.1; omega))) (by rw [length_ints, length_toB]; omega) fun w G=> ?_)))))
  rw [hre.2, rows_next] at G
  refine s0 <| blk_n <| then_n (hK7 _ _ <| wp_region_lit <| mv J Y Y fun a J=> sw J Y Y Y (R.subI (J.ev Y) (J.ev Y) (by omega)) fun a J=> av J Y Y fun a J=> s0 <| then_n (hKL1 (32 - (t + 1)) _ _ ?_ ?_))
  ·omega
  exact ⟨t + 1, Y, J.sub ⟨Y, Y, Y, (congrArg (fun z => some (Value.int .i64 z)) (by omega)), trivial⟩, G.sel [0] Y Y, by omega⟩
 obtain rfl : t = 32 := by omega
 rw [Nat.mod_eq_of_lt hx] at G
 refine wp_exit (then_x (then_x (blk_hit <| then_n (hK3 _ _ <| wp_seq_k fun K16 hK16=> wp_region_lit <| mv J Y Y fun a J=> av J Y Y fun a J=> s0 <| then_n (hK16 _ _ <| wp_ret (hR _ _ _ _ _ J (run_results Tryz.results99 (.t J Y (.nil))) ?_))))))
 exact ⟨_, _, Y, ⟨_, Y, Y⟩, G.one .h⟩
end Go.Proofs.YtlapmbkfmbkdoaaGreatDoor
end
section
namespace Go.Proofs.YtlapmbkfmbkdoaaGreatDoor
open Go Go.Fw Go.RowKit
attribute [local irreducible] Go.Oper.wp Go.Code.wp Go.wpList Go.Fw.WL Go.Calls
theorem number32 (A : Option Addr) (c v : Nat) (w0 : World) (hA : Rd w0 A (ints (toB 32 v))) : Ret Tryz.prog 29 [.slice A 32 c] w0 [] (fun u s => u = wv (v % 256 ^ 32) ∧ s = []) := by
  have := number_calls A c (toB 32 v) w0 hA toB_lt (by rw [length_toB]; decide)
  rwa [length_toB, numB_toB] at this
theorem M256 : (256 : Nat) ^ 32 = 115792089237316195423570985008687907853269984665640564039457584007913129639936 := by decide
end Go.Proofs.YtlapmbkfmbkdoaaGreatDoor
end
section
namespace Go.Proofs.YtlapmbkfmbkdoaaGreatDoor
open Go Go.Fw Go.RowKit
section
variable {F : Fx} {stk : List Nat} {left p : Nat} {asks : List Fw.Ask}
end
end Go.Proofs.YtlapmbkfmbkdoaaGreatDoor
end
section
namespace Go.Proofs.YtlapmbkfmbkdoaaGreatDoor
open Go Go.Fw Go.RowKit
attribute [local irreducible] Go.Oper.wp Go.Code.wp Go.wpList Go.Fw.WL Go.Calls
theorem chk_dec {xs : List Nat} : Value.bool (decide (¬ ((if chkN xs then 0 else 100 : Int) = 0))) = .bool (decide (chkN xs = false)) := by cases chkN xs <;> simp
end Go.Proofs.YtlapmbkfmbkdoaaGreatDoor
end
section
namespace Go.Proofs.YtlapmbkfmbkdoaaGreatDoor
open Go Go.Fw Go.RowKit
attribute [local irreducible] Go.Oper.wp Go.Code.wp Go.wpList Go.Fw.WL Go.Calls
def namesL : List (List Nat) := [[115, 116, 111, 112], [100, 111, 110, 101], [112, 117, 115, 104], [112, 111, 112], [100, 117, 112], [115, 119, 97, 112], [97, 100, 100], [115, 117, 98], [109, 117, 108], [100, 105, 118], [109, 111, 100], [108, 101, 115, 115], [115, 97, 109, 101], [110, 111, 116], [106, 117, 109, 112], [119, 104, 101, 110], [97, 114, 103], [97, 114, 103, 115], [99, 97, 108, 108, 101, 114], [115, 101, 108, 102], [116, 111, 107, 101, 110], [97, 109, 111, 117, 110, 116], [116, 105, 109, 101], [103, 97, 115], [108, 111, 97, 100], [115, 97, 118, 101], [104, 97, 118, 101], [115, 101, 110, 100]]
def strs (l : List (List Nat)) : List Value := l.map fun x => .string (bstr x)
def nameN (c : Nat) : List Nat := namesL.getD c []
theorem strs_at {l : List (List Nat)} {i off : Nat} (h : i < l.length) (ho : off = i) : (strs l)[off]? = some (.string (bstr (l.getD i []))) := by
  subst ho; simp [strs, List.getD_eq_getElem?_getD, h]
theorem name_calls (m : Nat) (w0 : World) (hm : m < 28) : Ret Tryz.prog 27 [.int .i64 ((m : Nat) : Int)] w0 [] (fun v s => v = .string (bstr (nameN m)) ∧ s = []) := by
 refine fn_start Tryz.func27 Y Tryz.ntmps27 Y [(0, .int .i64 ((m : Nat) : Int))] ⟨Y, trivial⟩ ?_
 intro Q a hP J hR hN
 have G := St.start w0
 refine wp_seq_k fun K1 hK1=> wp_region_lit <| av J Y Y fun a J=> s0 <| then_n (hK1 _ _ <| wp_seq_k fun K2 hK2=> wp_region_lit <| so (wn Y) (O.buildSlice (l := strs namesL) Y Y J Tryz.underlying108 inf9 Y Y (J.evp Y) (by decide) Y G fun b4 a w J G=> ?_))
 refine av J Y Y fun a J=> s0 <| then_n (hK2 _ _ <| wp_seq_k fun K3 hK3=> wp_seq_k fun K4 hK4=> wp_region_lit <| mv J Y Y fun a J=> sw J Y Y Y (R.as (u := .bool false) (R.lss (p := ((m : Nat) : Int)) (q := 0) (J.ev Y) (J.ev Y)) (congrArg Value.bool (decide_eq_false (by omega)))) fun a J=> mv J Y Y fun a J=> my J Y Y Y Y fun a J=> sv' J (wy J Y Y Y) Y Y (R.as (u := .bool false) (R.geq (p := ((m : Nat) : Int)) (q := 28) (J.ev Y) (J.ev Y)) (congrArg Value.bool (decide_eq_false (by omega)))) fun a J=> pF J Y Y Y fun a J=> s0 <| then_n (hK4 _ _ <| cF J Y <| wp_skip <| then_n (hK3 _ _ <| wp_seq_k fun K5 hK5=> wp_region_lit <| mv J Y Y fun a J=> mv J Y Y fun a J=> sw J Y Y Y (R.indexS Tryz.underlying108 sz9 (J.ev Y) (J.ev Y) (by omega) (by omega)) fun a J=> sw J Y Y Y (R.load one9 (J.ev Y) G .h (strs_at (i := m) hm (by omega))) fun a J=> av J Y Y fun a J=> ?_)))
 refine s0 <| then_n (hK5 _ _ <| wp_ret (hR _ _ _ _ _ J (run_results Tryz.results27 (.t J Y (.nil))) ?_))
 exact ⟨_, [], Y, ⟨Y, Y⟩, G.none⟩
end Go.Proofs.YtlapmbkfmbkdoaaGreatDoor
end
section
namespace Go.Proofs.YtlapmbkfmbkdoaaGreatDoor
open Go Go.Fw Go.RowKit
attribute [local irreducible] Go.Oper.wp Go.Code.wp Go.wpList Go.Fw.WL Go.Calls
end Go.Proofs.YtlapmbkfmbkdoaaGreatDoor
end
section
namespace Go.Proofs.YtlapmbkfmbkdoaaGreatDoor
open Go Go.Fw Go.RowKit
attribute [local irreducible] Go.Oper.wp Go.Code.wp Go.wpList Go.Fw.WL Go.Calls
end Go.Proofs.YtlapmbkfmbkdoaaGreatDoor
end
section
namespace Go.Proofs
end Go.Proofs
namespace Go.Proofs.YtlapmbkfmbkdoaaGreatDoor
open Go Go.Fw Go.RowKit
end Go.Proofs.YtlapmbkfmbkdoaaGreatDoor
end
section
namespace Go.Proofs.YtlapmbkfmbkdoaaGreatDoor
open Go Go.Fw Go.RowKit
attribute [local irreducible] Go.Oper.wp Go.Code.wp Go.wpList Go.Fw.WL Go.Calls
section
variable {P : Program} {w0 w : World} {ks : List Nat} {bs : List Seg} {ρ : Operand → Value} {dst : Option Tmp} {ty : TypeId} {pos : String} {af : Array Edge} {g : Option (Nat × Bool)} {x y : Operand} {T T' E : TypeId}
end
end Go.Proofs.YtlapmbkfmbkdoaaGreatDoor
end
section
namespace Go.Proofs.YtlapmbkfmbkdoaaGreatDoor
open Go Go.Fw Go.RowKit
attribute [local irreducible] Go.Oper.wp Go.Code.wp Go.wpList Go.Fw.WL Go.Calls
theorem row_name {c : Nat} (h : c < 28) : tabR[c]? = some (rowC (bstr (nameN c)) c) := by
  have hcases : c = 0 ∨ c = 1 ∨ c = 2 ∨ c = 3 ∨ c = 4 ∨ c = 5 ∨ c = 6 ∨ c = 7 ∨ c = 8 ∨ c = 9 ∨ c = 10 ∨ c = 11 ∨ c = 12 ∨ c = 13 ∨ c = 14 ∨ c = 15 ∨ c = 16 ∨ c = 17 ∨ c = 18 ∨ c = 19 ∨ c = 20 ∨ c = 21 ∨ c = 22 ∨ c = 23 ∨ c = 24 ∨ c = 25 ∨ c = 26 ∨ c = 27 := by omega
  rcases hcases with rfl | rfl | rfl | rfl | rfl | rfl | rfl | rfl | rfl | rfl | rfl | rfl | rfl | rfl | rfl | rfl | rfl | rfl | rfl | rfl | rfl | rfl | rfl | rfl | rfl | rfl | rfl | rfl <;> exact rfl
theorem row_nm {c off : Nat} (h : c < 28) (ho : off = c * 5) : ∀ j v, (rowC (bstr (nameN c)) c)[j]? = some v → tabL[off + j]? = some v := by
  subst ho
  exact flat_at (by decide +kernel) (row_name h)
end Go.Proofs.YtlapmbkfmbkdoaaGreatDoor
end
section
namespace Go.Proofs.YtlapmbkfmbkdoaaGreatDoor
open Go Go.Fw Go.RowKit
attribute [local irreducible] Go.Oper.wp Go.Code.wp Go.wpList Go.Fw.WL Go.Calls
end Go.Proofs.YtlapmbkfmbkdoaaGreatDoor
end
section
namespace Go.Proofs.YtlapmbkfmbkdoaaGreatDoor
open Go Go.Fw Go.RowKit
attribute [local irreducible] Go.Oper.wp Go.Code.wp Go.wpList Go.Fw.WL Go.Calls
theorem sameBytes_eq (A B : Option Addr) (n c d : Nat) (xs : List Nat) (w0 : World) (hA : Rd w0 A (byts xs)) (hB : Rd w0 B (byts xs)) (hn : xs.length = n) : Ret Tryz.prog 19 [.slice A n c, .slice B n d] w0 [] (fun v s => v = .bool true ∧ s = []) := by
 refine fn_start Tryz.func19 Y Tryz.ntmps19 Y [(0, .slice A n c), (1, .slice B n d)] ⟨Y, Y, trivial⟩ ?_
 intro Q a hP J hR hN
 have G := St.start w0
 refine wp_seq_k fun K1 hK1=> wp_region_lit <| av J Y Y fun a J=> s0 <| then_n (hK1 _ _ <| wp_seq_k fun K2 hK2=> wp_region_lit <| mv J Y Y fun a J=> sw J Y Y Y (R.convStr Tryz.underlying22 Tryz.underlying5 Tryz.underlying9 (J.ev Y) (hA.old G) hn) fun a J=> mv J Y Y fun a J=> sw J Y Y Y (R.convStr Tryz.underlying22 Tryz.underlying5 Tryz.underlying9 (J.ev Y) (hB.old G) hn) fun a J=> sw J Y Y Y (R.as (u := .bool true) (R.eqlStr (J.ev Y) (J.ev Y)) (congrArg Value.bool (decide_eq_true (Y)))) fun a J=> av J Y Y fun a J=> s0 <| then_n (hK2 _ _ <| wp_ret (hR _ _ _ _ _ J (run_results Tryz.results19 (.t J Y (.nil))) ?_)))
 exact ⟨_, [], Y, ⟨Y, Y⟩, G.none⟩
end Go.Proofs.YtlapmbkfmbkdoaaGreatDoor
end
section
namespace Go.Proofs.YtlapmbkfmbkdoaaGreatDoor
open Go Go.Fw Go.RowKit
attribute [local irreducible] Go.Oper.wp Go.Code.wp Go.wpList Go.Fw.WL Go.Calls
end Go.Proofs.YtlapmbkfmbkdoaaGreatDoor
end
section
namespace Go.Proofs.YtlapmbkfmbkdoaaGreatDoor
open Go Go.Fw Go.RowKit
attribute [local irreducible] Go.Oper.wp Go.Code.wp Go.wpList Go.Fw.WL Go.Calls
theorem parse_calls (s : ByteArray) (w0 : World) : Ret Tryz.prog 113 [.string s] w0 [] (fun v q => v = prsW (bys s) ∧ q = []) := by
 refine fn_start Tryz.func113 Y Tryz.ntmps113 Y [(0, .string s)] ⟨Y, trivial⟩ ?_
 intro Q a hP J hR hN
 have G := St.start w0
 have hlen := length_bys s
 refine wp_seq_k fun K1 hK1=> wp_region_lit <| so (wn Y) (O.alloc Y Y J ze32 Y G fun b2 a w J G=> ?_)
 refine av J Y Y fun a J=> s0 <| then_n (hK1 _ _ <| wp_seq_k fun K2 hK2=> wp_region_lit <| so (wn Y) (O.alloc Y Y J ze32 Y G fun b4 a w J G=> ?_))
 refine s0 <| then_n (hK2 _ _ <| wp_seq_k fun K3 hK3=> wp_seq_k fun K4 hK4=> ?_)
 have hK4' : ∀ a w, (Fr 61 [(0, .string s), (2, .pointer (some ⟨b2, 0, none⟩)), (4, .pointer (some ⟨b4, 0, none⟩)), (18, .bool (decide (s.size = 0 ∨ ((bys s).getD 0 0 = 48 ∧ ¬ s.size = 1))))] a ∧ St w0 [] [[(b4, Cel (wc 0) 32)], [(b2, Cel (wc 0) 32)]] w) → K4 a w := by
  rintro a w ⟨J, G⟩
  refine hK4 _ _ ?_
  refine cD J Y (fun hz=> ?_) (fun hz=> ?_)
  ·have hpn := prs_bad0 (hlen.symm ▸ hz)
   refine wp_seq_k fun K5 hK5=> wp_region_lit <| sw J Y Y Y (R.loadW agg32 (J.ev Y) G .h sz32 (Y)) fun a J=> so (wn Y) (O.storeW sz32 (J.ev Y) (J.ev Y) (Y) Y (by simp [Value.oneCell']) G (.t .h) (Y) fun w G=> ?_)
   refine av J Y Y fun a J=> s0 <| then_n (hK5 _ _ <| wp_ret (then_r (hR _ _ _ _ _ J (run_results Tryz.results113 (.cw J Y agg32 G (.t .h) sz32 (Y) (.t J Y (.nil)))) ?_)))
   exact ⟨_, [], Y, ⟨by rw [prsW, hpn]; rfl, Y⟩, G.none⟩
  have hnz := hz
  refine wp_skip <| then_n (hK3 _ _ <| wp_seq_k fun K6 hK6=> wp_seq_k fun K7 hK7=> wp_region_lit <| mv J Y Y fun a J=> sw J Y Y Y (R.lenS Tryz.underlying9 (J.ev Y)) fun a J=> mv J Y Y fun a J=> s0 <| then_n (hK7 _ _ <| wp_block <| wp_loop_N (fun g a w=> ∃ (i : Nat), s.size - i = g ∧ Fr 61 [(0, .string s), (2, .pointer (some ⟨b2, 0, none⟩)), (4, .pointer (some ⟨b4, 0, none⟩)), (21, .int .i64 (s.size : Int)), (22, .int .i64 (i : Nat))] a ∧ St w0 [] [[(b4, Cel (wc (num ((bys s).take i))) 32)], [(b2, Cel (wc 0) 32)]] w ∧ (i ≤ s.size) ∧ (allD ((bys s).take i) = true) ∧ (num ((bys s).take i) < 115792089237316195423570985008687907853269984665640564039457584007913129639936) ∧ (i = 0 ∨ s.size = 1 ∨ 10 ^ i ≤ 10 * num ((bys s).take i))) (s.size - 0) ?_ ?_))
  ·exact ⟨0, Y, J.sub ⟨Y, Y, Y, Y, Y, trivial⟩, G.sel [0, 1] Y Y, by omega, Y, by show num [] < _; decide, by omega⟩
  rintro KL1 g a w ⟨i, hg1, J, G, hi, hal, hnm, hgr⟩ hKL1
  refine wp_seq_k fun K8 hK8=> wp_region_lit <| lS J Y Y Y fun a J=> s0 <| then_n (hK8 _ _ <| wp_seq_k fun K9 hK9=> cD J Y (fun c2=> ?_) (fun c2=> ?_))
  ·refine wp_skip <| then_n (hK9 _ _ <| wp_seq_k fun K10 hK10=> wp_block <| wp_seq_k fun K11 hK11=> wp_region_lit <| mv J Y Y fun a J=> av J Y Y fun a J=> s0 <| then_n (hK11 _ _ <| wp_seq_k fun K12 hK12=> wp_seq_k fun K13 hK13=> ?_))
   have hK13' : ∀ a w, (Fr 61 [(0, .string s), (2, .pointer (some ⟨b2, 0, none⟩)), (4, .pointer (some ⟨b4, 0, none⟩)), (21, .int .i64 (s.size : Int)), (22, .int .i64 (i : Nat)), (5, .int .i64 (i : Nat)), (34, .bool (decide (((bys s).getD i 0) < 48 ∨ 57 < ((bys s).getD i 0))))] a ∧ St w0 [] [[(b4, Cel (wc (num ((bys s).take i))) 32)], [(b2, Cel (wc 0) 32)]] w) → K13 a w := by
    rintro a w ⟨J, G⟩
    refine hK13 _ _ ?_
    refine cD J Y (fun c3=> ?_) (fun c3=> ?_)
    ·have hpn := prs_badD (allD_bad (bys s) i (by omega) c3)
     refine wp_seq_k fun K14 hK14=> wp_region_lit <| sw J Y Y Y (R.buildArr (l := [_, _, _, _]) Tryz.underlying32 ze32 sz30 (J.evp Y) Y) fun a J=> so (wn Y) (O.storeW sz32 (J.ev Y) (J.ev Y) (Y) Y (by simp [Value.oneCell']) G (.t .h) (Y) fun w G=> ?_)
     refine av J Y Y fun a J=> s0 <| then_n (hK14 _ _ <| wp_ret (then_r (blk_r (then_r (then_r (blk_r (then_r (hR _ _ _ _ _ J (run_results Tryz.results113 (.cw J Y agg32 G (.t .h) sz32 (Y) (.t J Y (.nil)))) ?_))))))))
     exact ⟨_, [], Y, ⟨by rw [prsW, hpn]; rfl, Y⟩, G.none⟩
    have hnj := num_take (bys s) i (by omega)
    have hbb := byt_bys s
    have hi7 : i < s.size ∧ 48 ≤ ((bys s).getD i 0) := ⟨by omega, by omega⟩
    refine wp_skip <| then_n (hK12 _ _ <| wp_seq_k fun K15 hK15=> ?_)
    have hK15' : ∀ a w, (∃ (b6 : Nat), Fr 61 [(0, .string s), (2, .pointer (some ⟨b2, 0, none⟩)), (4, .pointer (some ⟨b4, 0, none⟩)), (21, .int .i64 (s.size : Int)), (22, .int .i64 (i : Nat)), (5, .int .i64 (i : Nat)), (6, .pointer (some ⟨b6, 0, none⟩)), (7, .int .i64 (if num ((bys s).take i) * 10 < 115792089237316195423570985008687907853269984665640564039457584007913129639936 then 0 else 22))] a ∧ St w0 [] [[(b6, Cel (wc (if num ((bys s).take i) * 10 < 115792089237316195423570985008687907853269984665640564039457584007913129639936 then num ((bys s).take i) * 10 else 0)) 32)], [(b4, Cel (wc (num ((bys s).take i))) 32)], [(b2, Cel (wc 0) 32)]] w) → K15 a w := by
     rintro a w ⟨b6, J, G⟩
     refine hK15 _ _ ?_
     refine wp_seq_k fun K16 hK16=> ?_
     have hK16' : ∀ a w, (Fr 61 [(0, .string s), (2, .pointer (some ⟨b2, 0, none⟩)), (4, .pointer (some ⟨b4, 0, none⟩)), (21, .int .i64 (s.size : Int)), (22, .int .i64 (i : Nat)), (5, .int .i64 (i : Nat)), (6, .pointer (some ⟨b6, 0, none⟩)), (7, .int .i64 (if num ((bys s).take (i + 1)) < 115792089237316195423570985008687907853269984665640564039457584007913129639936 then 0 else 22))] a ∧ St w0 [] [[(b6, Cel (wc (if num ((bys s).take (i + 1)) < 115792089237316195423570985008687907853269984665640564039457584007913129639936 then num ((bys s).take (i + 1)) else 0)) 32)], [(b4, Cel (wc (num ((bys s).take i))) 32)], [(b2, Cel (wc 0) 32)]] w) → K16 a w := by
      rintro a w ⟨J, G⟩
      refine hK16 _ _ ?_
      refine wp_seq_k fun K17 hK17=> wp_seq_k fun K18 hK18=> wp_region_lit <| mv J Y Y fun a J=> sw J Y Y Y (R.neq (J.ev Y) (J.ev Y)) fun a J=> s0 <| then_n (hK18 _ _ <| cD J Y (fun c5=> ?_) (fun c5=> ?_))
      ·have hbig : ¬ num ((bys s).take (i + 1)) < 115792089237316195423570985008687907853269984665640564039457584007913129639936 := fun h => by rw [if_pos h] at c5; omega
       have hpn := prs_big (Nat.le_trans (Nat.le_of_not_lt hbig) (num_take_le (bys s) (i + 1)))
       refine wp_seq_k fun K19 hK19=> wp_region_lit <| sw J Y Y Y (R.buildArr (l := [_, _, _, _]) Tryz.underlying32 ze32 sz30 (J.evp Y) Y) fun a J=> so (wn Y) (O.storeW sz32 (J.ev Y) (J.ev Y) (Y) Y (by simp [Value.oneCell']) G (.t (.t .h)) (Y) fun w G=> ?_)
       refine av J Y Y fun a J=> s0 <| then_n (hK19 _ _ <| wp_ret (then_r (blk_r (then_r (then_r (blk_r (then_r (hR _ _ _ _ _ J (run_results Tryz.results113 (.cw J Y agg32 G (.t (.t .h)) sz32 (Y) (.t J Y (.nil)))) ?_))))))))
       exact ⟨_, [], Y, ⟨by rw [prsW, hpn]; rfl, Y⟩, G.none⟩
      have hsm : num ((bys s).take (i + 1)) < 115792089237316195423570985008687907853269984665640564039457584007913129639936 := by (by_cases h : num ((bys s).take (i + 1)) < 115792089237316195423570985008687907853269984665640564039457584007913129639936; exact h; rw [if_neg h] at c5; omega)
      rw [if_pos hsm] at G
      refine wp_skip <| then_n (hK17 _ _ <| wp_region_lit <| sw J Y Y Y (R.loadW agg32 (J.ev Y) G .h sz32 (Y)) fun a J=> so (wn Y) (O.storeW sz32 (J.ev Y) (J.ev Y) (Y) Y (by simp [Value.oneCell']) G (.t .h) (Y) fun w G=> ?_))
      refine s0 <| blk_n <| then_n (hK10 _ _ <| wp_region_lit ?_)
      have hi9 : i + 1 ≤ 9223372036854775807 := by (rcases hgr with h | h | h; omega; omega; have := few_chr hnm h; omega)
      refine aI J Y Y Y (by omega) fun a J=> mv J Y Y fun a J=> s0 <| then_n (hKL1 (s.size - (i + 1)) _ _ ?_ ?_)
      ·omega
      exact ⟨i + 1, Y, J.sub ⟨Y, Y, Y, Y, Y, trivial⟩, G.sel [1, 2] Y Y, by omega, allD_take _ i (by omega) hal (by omega), by omega, num_grows hlen hnz hi7 hnj hgr⟩
     refine wp_seq_k fun K20 hK20=> wp_region_lit <| mv J Y Y fun a J=> eL J Y Y Y fun a J=> s0 <| then_n (hK20 _ _ <| cD J Y (fun c4=> ?_) (fun c4=> ?_))
     ·have hfit : num ((bys s).take i) * 10 < 115792089237316195423570985008687907853269984665640564039457584007913129639936 := by (by_cases h : num ((bys s).take i) * 10 < 115792089237316195423570985008687907853269984665640564039457584007913129639936; exact h; rw [if_neg h] at c4; omega)
      rw [if_pos hfit] at G
      refine wp_drawS G [(0, 1), (1, 0), (2, 0), (3, 0), (4, 0), (5, 0), (6, 2), (7, 2), (8, 0), (9, 0), (10, 0), (11, 3), (12, 0)] mix (by kernel_rfl) (hP.then.block.then.then.block.then) fun w G=> ?_
      have hD := G
      refine ds J Y Y Y Y hD (fun w hD=> R.loadW agg32 (J.ev Y) hD .h sz32 (Y)) fun a J=> ?_
      refine dm J Y Y Y fun a J=> dm J Y Y Y fun a J=> dv J Y Y Y Y (fun w=> R.as (u := .int .u8 ((((bys s).getD i 0) : Nat) : Int)) (R.chr Tryz.underlying9 (J.ev Y) (J.ev Y) (by omega) (by omega)) (Y)) fun a J=> dv J Y Y Y Y (fun w=> R.as (u := .int .u8 ((((bys s).getD i 0) - 48 : Nat) : Int)) (R.sub (k := .u8) (p := ((((bys s).getD i 0) : Nat) : Int)) (q := 48) (J.ev Y) (J.ev Y)) (congrArg (fun z : Int=> Value.int .u8 z) (by rw [IntKind.wrap_u8']; omega))) fun a J=> dv J Y Y Y Y (fun w=> R.as (u := .int .u64 ((((bys s).getD i 0) - 48 : Nat) : Int)) (R.convU Tryz.underlying5 Tryz.underlying30 (J.ev Y)) (congrArg (fun z : Nat=> Value.int .u64 (z : Int)) (by omega))) fun a J=> dl Y (wn Y) (O.call Y Y J ent116 (J.evs Y) G (of_calls (((bys s).getD i 0) - 48) _ (by omega)) fun v s51 a w hR J G=> ⟨fun hD=> G.tail, ?_⟩)
      obtain ⟨rfl, rfl⟩ := hR
      have hD := G.tail
      refine dl Y (wn Y) (O.call Y Y J ent119 (J.evs Y) G (add_calls (num ((bys s).take i) * 10) (((bys s).getD i 0) - 48) _ hfit (by omega)) fun v s52 a w hR J G=> ⟨fun hD=> G.tail.tail, ?_⟩)
      obtain ⟨rfl, rfl⟩ := hR
      have hD := G.tail.tail
      refine dm J Y Y Y fun a J=> dx J Y Y Y Y fun a J=> dx J Y Y Y Y fun a J=> dw Y (wn Y) (O.storeW sz32 (J.ev Y) (J.ev Y) (Y) Y (by simp [Value.oneCell']) G (.t (.t .h)) (Y) fun w G=> ?_)
      refine da J Y Y Y fun a J=> d0 ?_
      exact then_n (hK16' _ _ ⟨J.sub ⟨Y, Y, Y, Y, Y, Y, Y, (by rw [hnj]; rfl), trivial⟩, G.sel [2, 3, 4] Y (by rw [hnj]; rfl)⟩)
     have hno : ¬ num ((bys s).take i) * 10 < 115792089237316195423570985008687907853269984665640564039457584007913129639936 := fun h => by rw [if_pos h] at c4; omega
     refine wp_skip ?_
     exact then_n (hK16' _ _ ⟨J.sub ⟨Y, Y, Y, Y, Y, Y, Y, (by rw [if_neg (show ¬ num ((bys s).take i) * 10 < 115792089237316195423570985008687907853269984665640564039457584007913129639936 by omega), if_neg (show ¬ num ((bys s).take (i + 1)) < 115792089237316195423570985008687907853269984665640564039457584007913129639936 by omega)]; rfl), trivial⟩, G.sel [0, 1, 2] Y (by rw [if_neg (show ¬ num ((bys s).take i) * 10 < 115792089237316195423570985008687907853269984665640564039457584007913129639936 by omega), if_neg (show ¬ num ((bys s).take (i + 1)) < 115792089237316195423570985008687907853269984665640564039457584007913129639936 by omega)]; rfl)⟩)
    refine wp_drawN G (G.sel [0, 1] Y Y) [(0, 1), (1, 2), (2, 2), (3, 0), (4, 0), (5, 0), (6, 2), (7, 3), (8, 0)] (.node [(0, 1)] (.node [(1, 2)] (.leaf [(2, 2), (3, 0), (4, 0), (5, 0), (6, 2), (7, 3), (8, 0)]) (.leaf [(6, 2), (2, 2), (3, 0), (4, 0), (5, 0), (7, 3), (8, 0)])) (.leaf [(6, 2), (1, 2), (2, 2), (3, 0), (4, 0), (5, 0), (7, 3), (8, 0)])) mix (by kernel_rfl) (hP.then.block.then.then.block.then) fun w G hD=> ?_
    refine ds J Y Y Y Y hD (fun w hD=> R.loadW agg32 (J.ev Y) hD .h sz32 (Y)) fun a J=> ?_
    refine d0 <| ⟨?_, ?_⟩
    ·refine dl Y (wn Y) (O.call Y Y J ent116 (J.evs Y) G (of_calls 10 _ (by decide)) fun v s38 a w hR J G=> ⟨fun hD=> G.tail, ?_⟩)
     obtain ⟨rfl, rfl⟩ := hR
     have hD := G.tail
     refine d0 <| ⟨?_, ?_⟩
     ·refine dl Y (wn Y) (O.call Y Y J ent121 (J.evs Y) G (mul_calls (num ((bys s).take i)) 10 _ hnm (by decide)) fun v s39 a w hR J G=> ⟨fun hD=> G.tail.tail, ?_⟩)
      obtain ⟨rfl, rfl⟩ := hR
      have hD := G.tail.tail
      refine dm J Y Y Y fun a J=> dx J Y Y Y Y fun a J=> dx J Y Y Y Y fun a J=> dl Y (wn Y) (O.alloc Y Y J ze32 Y G fun b6 a w J G=> ⟨fun hD=> G.tail.tail.tail, ?_⟩)
      have hD := G.tail.tail.tail
      refine dw Y (wn Y) (O.storeW sz32 (J.ev Y) (J.ev Y) (Y) Y (by simp [Value.oneCell']) G .h (Y) fun w G=> ?_)
      refine da J Y Y Y fun a J=> d0 ?_
      exact then_n (hK15' _ _ ⟨b6, J.sub ⟨Y, Y, Y, Y, Y, Y, Y, Y, trivial⟩, G.sel [0, 3, 4] Y Y⟩)
     refine dl Y (wn Y) (O.alloc Y Y J ze32 Y G fun b6 a w J G=> ⟨fun hD=> G.tail.tail, ?_⟩)
     have hD := G.tail.tail
     refine dl Y (wn Y) (O.call Y Y J ent121 (J.evs Y) G (mul_calls (num ((bys s).take i)) 10 _ hnm (by decide)) fun v s39 a w hR J G=> ⟨fun hD=> G.tail.tail.tail, ?_⟩)
     obtain ⟨rfl, rfl⟩ := hR
     have hD := G.tail.tail.tail
     refine dm J Y Y Y fun a J=> dx J Y Y Y Y fun a J=> dx J Y Y Y Y fun a J=> dw Y (wn Y) (O.storeW sz32 (J.ev Y) (J.ev Y) (Y) Y (by simp [Value.oneCell']) G (.t .h) (Y) fun w G=> ?_)
     refine da J Y Y Y fun a J=> d0 ?_
     exact then_n (hK15' _ _ ⟨b6, J.sub ⟨Y, Y, Y, Y, Y, Y, Y, Y, trivial⟩, G.sel [1, 3, 4] Y Y⟩)
    refine dl Y (wn Y) (O.alloc Y Y J ze32 Y G fun b6 a w J G=> ⟨fun hD=> G.tail, ?_⟩)
    have hD := G.tail
    refine dl Y (wn Y) (O.call Y Y J ent116 (J.evs Y) G (of_calls 10 _ (by decide)) fun v s38 a w hR J G=> ⟨fun hD=> G.tail.tail, ?_⟩)
    obtain ⟨rfl, rfl⟩ := hR
    have hD := G.tail.tail
    refine dl Y (wn Y) (O.call Y Y J ent121 (J.evs Y) G (mul_calls (num ((bys s).take i)) 10 _ hnm (by decide)) fun v s39 a w hR J G=> ⟨fun hD=> G.tail.tail.tail, ?_⟩)
    obtain ⟨rfl, rfl⟩ := hR
    have hD := G.tail.tail.tail
    refine dm J Y Y Y fun a J=> dx J Y Y Y Y fun a J=> dx J Y Y Y Y fun a J=> dw Y (wn Y) (O.storeW sz32 (J.ev Y) (J.ev Y) (Y) Y (by simp [Value.oneCell']) G (.t (.t .h)) (Y) fun w G=> ?_)
    refine da J Y Y Y fun a J=> d0 ?_
    exact then_n (hK15' _ _ ⟨b6, J.sub ⟨Y, Y, Y, Y, Y, Y, Y, Y, trivial⟩, G.sel [2, 3, 4] Y Y⟩)
   refine wp_region_lit <| mv J Y Y fun a J=> mv J Y Y fun a J=> sw J Y Y Y (R.as (u := .int .u8 ((((bys s).getD i 0) : Nat) : Int)) (R.chr Tryz.underlying9 (J.ev Y) (J.ev Y) (by omega) (by omega)) (Y)) fun a J=> lS J Y Y Y fun a J=> mv J Y Y fun a J=> J.splitD (t := 29) Y (fun h29 J=> ?_) (fun h29 J=> ?_)
   ·refine kz J Y Y Y Y Y Y fun a J=> kz J Y Y Y Y Y Y fun a J=> kz J Y Y Y Y Y Y fun a J=> kz J Y Y Y Y Y Y fun a J=> pT J Y Y Y fun a J=> s0 ?_
    exact then_n (hK13' _ _ ⟨J.sub ⟨Y, Y, Y, Y, Y, Y, (congrArg (fun z => some (Value.bool z)) (by first | exact (decide_eq_true (by omega)).symm | exact (decide_eq_false (by omega)).symm | exact decide_eq_decide.2 (by omega))), trivial⟩, G.sel [0, 1] Y Y⟩)
   refine my J Y Y Y Y fun a J=> my J Y Y Y Y fun a J=> sv' J (wy J Y Y Y) Y Y (R.as (u := .int .u8 ((((bys s).getD i 0) : Nat) : Int)) (R.chr Tryz.underlying9 (J.ev Y) (J.ev Y) (by omega) (by omega)) (Y)) fun a J=> sv' J (wy J Y Y Y) Y Y (R.gtr (J.ev Y) (J.ev Y)) fun a J=> pF J Y Y Y fun a J=> s0 ?_
   exact then_n (hK13' _ _ ⟨J.sub ⟨Y, Y, Y, Y, Y, Y, (congrArg (fun z => some (Value.bool z)) (by first | exact (decide_eq_true (by omega)).symm | exact (decide_eq_false (by omega)).symm | exact decide_eq_decide.2 (by omega))), trivial⟩, G.sel [0, 1] Y Y⟩)
  obtain rfl : i = s.size := by omega
  have htk : (bys s).take s.size = bys s := by rw [← hlen, List.take_length]
  rw [htk] at G hal hnm
  have hpn := prs_good (hlen.symm ▸ hnz) hal hnm
  refine wp_exit (then_x (then_x (blk_hit <| then_n (hK6 _ _ <| wp_seq_k fun K21 hK21=> wp_region_lit <| sw J Y Y Y (R.loadW agg32 (J.ev Y) G .h sz32 (Y)) fun a J=> so (wn Y) (O.storeW sz32 (J.ev Y) (J.ev Y) (Y) Y (by simp [Value.oneCell']) G (.t .h) (Y) fun w G=> ?_)))))
  refine av J Y Y fun a J=> s0 <| then_n (hK21 _ _ <| wp_ret (hR _ _ _ _ _ J (run_results Tryz.results113 (.cw J Y agg32 G (.t .h) sz32 (Y) (.t J Y (.nil)))) ?_))
  exact ⟨_, [], Y, ⟨by rw [prsW, hpn]; rfl, Y⟩, G.none⟩
 refine wp_region_lit <| mv J Y Y fun a J=> sw J Y Y Y (R.as (u := .bool (decide (s.size = 0))) (R.eqlStr (J.ev Y) (J.ev Y)) (congrArg Value.bool (decide_eq_decide.2 (str_0 s)))) fun a J=> mv J Y Y fun a J=> J.splitD (t := 10) Y (fun h10 J=> ?_) (fun h10 J=> ?_)
 ·refine kz J Y Y Y Y Y Y fun a J=> kz J Y Y Y Y Y Y fun a J=> kz J Y Y Y Y Y Y fun a J=> kz J Y Y Y Y Y Y fun a J=> ku J Y Y Y Y Y fun a J=> ku J Y Y Y Y Y fun a J=> kz J Y Y Y Y Y Y fun a J=> pT J Y Y Y fun a J=> s0 ?_
  exact then_n (hK4' _ _ ⟨J.sub ⟨Y, Y, Y, (congrArg (fun z => some (Value.bool z)) (by first | exact (decide_eq_true (by omega)).symm | exact (decide_eq_false (by omega)).symm | exact decide_eq_decide.2 (by omega))), trivial⟩, G.sel [0, 1] Y Y⟩)
 refine my J Y Y Y Y fun a J=> sv' J (wy J Y Y Y) Y Y (R.as (u := .int .u8 (((bys s).getD 0 0 : Nat) : Int)) (R.chr Tryz.underlying9 (J.ev Y) (J.ev Y) (by omega) (by simp only [Int.toNat_zero]; omega)) (Y)) fun a J=> sv' J (wy J Y Y Y) Y Y (R.eql (p := (((bys s).getD 0 0 : Nat) : Int)) (q := 48) (J.ev Y) (J.ev Y)) fun a J=> my J Y Y Y Y fun a J=> J.splitD (t := 14) Y (fun h14 J=> ?_) (fun h14 J=> ?_)
 ·refine my J Y Y Y Y fun a J=> sv' J (wy J Y Y Y) Y Y (R.as (u := .bool (decide (¬ s.size = 1))) (R.neqStr (J.ev Y) (J.ev Y)) (congrArg Value.bool (decide_eq_decide.2 (not_congr (str_1 s (by omega) (by omega)))))) fun a J=> sv' J (wy J Y Y Y) Y Y (R.pickT (J.ev Y) (J.ev Y)) fun a J=> pF J Y Y Y fun a J=> s0 ?_
  exact then_n (hK4' _ _ ⟨J.sub ⟨Y, Y, Y, (congrArg (fun z => some (Value.bool z)) (by first | exact (decide_eq_true (by omega)).symm | exact (decide_eq_false (by omega)).symm | exact decide_eq_decide.2 (by omega))), trivial⟩, G.sel [0, 1] Y Y⟩)
 refine kz J Y Y Y Y Y Y fun a J=> kz J Y Y Y Y Y Y fun a J=> sv' J (wy J Y Y Y) Y Y (R.pickF (J.ev Y) (J.ev Y)) fun a J=> pF J Y Y Y fun a J=> s0 ?_
 exact then_n (hK4' _ _ ⟨J.sub ⟨Y, Y, Y, (congrArg (fun z => some (Value.bool z)) (by first | exact (decide_eq_true (by omega)).symm | exact (decide_eq_false (by omega)).symm | exact decide_eq_decide.2 (by omega))), trivial⟩, G.sel [0, 1] Y Y⟩)
end Go.Proofs.YtlapmbkfmbkdoaaGreatDoor
end
section
namespace Go.Proofs.YtlapmbkfmbkdoaaGreatDoor
open Go Go.Fw Go.RowKit
def isLet (c : Nat) : Bool := decide (97 ≤ c ∧ c ≤ 122 ∨ 65 ≤ c ∧ c ≤ 90)
def labC (c : Nat) : Bool := decide ((97 ≤ c ∧ c ≤ 122 ∨ 65 ≤ c ∧ c ≤ 90) ∨ (48 ≤ c ∧ c ≤ 57) ∨ c = 95)
def okL (s : List Nat) : Bool := Nat.ble 1 s.length && (Nat.ble s.length 30 && (isLet (s.getD 0 0) && s.all labC))
def spl10 : List Nat → List Nat → List (List Nat)
  | cur, [] => [cur]
  | cur, c :: r => if c = 10 then cur :: spl10 [] r else spl10 (cur ++ [c]) r
def clo (cur : List Nat) : List (List Nat) := if cur = [] then [] else [cur]
def fld : List Nat → List Nat → List (List Nat)
  | cur, [] => clo cur
  | cur, c :: r => if c = 35 then clo cur else if c = 32 ∨ c = 9 then clo cur ++ fld [] r else fld (cur ++ [c]) r
def wordsN (l : List Nat) : List (List Nat) := fld [] l
def codeN (s : List Nat) : Nat := namesL.findIdx (· == s)
structure It where
  lab : List Nat
  code : Int
  bs : List Nat
  tg : List Nat
def trim0 : List Nat → List Nat
  | [] => []
  | c :: r => if c = 0 ∧ r ≠ [] then trim0 r else c :: r
def isLab (a : List Nat) (r : List (List Nat)) : Bool := decide (r = []) && (decide (a.getLast? = some 58) && okL a.dropLast)
def lblN (xs : List Nat) : List Nat × Bool := if xs.length < 2 ∨ 31 < xs.length ∨ ¬ xs.getD (xs.length - 1) 0 = 58 then ([], false) else (xs.take (xs.length - 1), okL (xs.take (xs.length - 1)))
abbrev hasP (c : Nat) : Prop := c = 2 ∨ c = 4 ∨ c = 5 ∨ c = 16 ∨ c = 14 ∨ c = 15
def mostN (c : Nat) : Nat := if c = 16 then 255 else 15
def leastN (c : Nat) : Nat := if c = 5 then 1 else 0
def pshN (n : Nat) : List Nat := 2 :: (trim0 (toB 32 n)).length :: trim0 (toB 32 n)
def insM (c n : Nat) (b : List Nat) : Option It :=
  if 2 < n ∨ 28 ≤ c ∨ ¬ (hasP c ↔ n = 2) then none else
  if ¬ hasP c then some ⟨[], c, [c], []⟩ else
  if c = 14 ∨ c = 15 then (if okL b = true then some ⟨[], c, [c, 0, 0], b⟩ else none) else
  match prs b with
  | none => none
  | some m => if c = 2 then some ⟨[], c, pshN m, []⟩ else if mostN c < m ∨ m < leastN c then none else some ⟨[], c, [c, m], []⟩
def undN (ws : List (List Nat)) : Option It :=
  if ws.length = 1 ∧ (lblN (ws.getD 0 [])).2 = true then some ⟨(lblN (ws.getD 0 [])).1, -1, [], []⟩ else insM (codeN (ws.getD 0 [])) ws.length (ws.getD 1 [])
def isL (x : It) (s : List Nat) : Bool := decide (x.code < 0) && x.lab == s
def tw (acc : List (It × Nat)) (x : It) : Bool := decide (x.code < 0) && acc.any fun y => isL y.1 x.lab
def sayN : List (List Nat) → Nat → List (It × Nat) → Nat ⊕ List (It × Nat)
  | [], _, acc => .inr acc
  | l :: r, i, acc => if wordsN l = [] then sayN r (i + 1) acc else
    match undN (wordsN l) with
    | none => .inl (i + 1)
    | some x => if tw acc x then .inl (i + 1) else sayN r (i + 1) (acc ++ [(x, i + 1)])
def plcL : List (It × Nat) → List Nat → Nat → Option Nat
  | [], _, _ => none
  | x :: r, s, p => if isL x.1 s then some p else plcL r s (p + x.1.bs.length)
def badN (all : List (It × Nat)) : List (It × Nat) → Option Nat
  | [] => none
  | x :: r => if x.1.tg ≠ [] ∧ plcL all x.1.tg 0 = none then some x.2 else badN all r
def outB (all : List (It × Nat)) (x : It) : List Nat := if x.tg = [] then x.bs else [x.bs.getD 0 0, (plcL all x.tg 0).getD 0 / 256 % 256, (plcL all x.tg 0).getD 0 % 256]
def flat (f : It → List Nat) (l : List (It × Nat)) : List Nat := l.flatMap fun x => f x.1
def lenN (l : List (It × Nat)) : Nat := (flat (·.bs) l).length
def jmps : List (It × Nat) → Nat → List (List Nat × Nat × Nat)
  | [], _ => []
  | x :: r, p => (if x.1.tg = [] then [] else [(x.1.tg, p, x.2)]) ++ jmps r (p + x.1.bs.length)
def labs : List (It × Nat) → Nat → List (List Nat × Nat)
  | [], _ => []
  | x :: r, p => (if x.1.code < 0 then [(x.1.lab, p)] else []) ++ labs r (p + x.1.bs.length)
def put2 (c : List Nat) (at' p : Nat) : List Nat := (c.set (at' + 1) (p / 256 % 256)).set (at' + 2) (p % 256)
def lkp (l : List (List Nat × Nat)) (s : List Nat) : Option Nat := (l.find? fun x => x.1 == s).map (·.2)
def patN (l : List (List Nat × Nat)) : List (List Nat × Nat × Nat) → List Nat → Nat ⊕ List Nat
  | [], c => .inr c
  | j :: r, c => match lkp l j.1 with
    | none => .inl j.2.2
    | some p => patN l r (put2 c j.2.1 (min p 1024))
def ItOK (x : It) : Prop := (x.tg ≠ [] → x.bs.length = 3 ∧ ¬ x.code < 0) ∧ (x.code < 0 → x.bs = [] ∧ x.tg = []) ∧ (¬ x.code < 0 → 0 < x.bs.length) ∧ Byt x.bs ∧ x.bs.length ≤ 34
theorem lenN_append (a b : List (It × Nat)) : lenN (a ++ b) = lenN a + lenN b := by simp [lenN, flat]
theorem flat_append (f : It → List Nat) (a b : List (It × Nat)) : flat f (a ++ b) = flat f a ++ flat f b := by simp [flat]
theorem flat_cons (f : It → List Nat) (x : It × Nat) (b : List (It × Nat)) : flat f (x :: b) = f x.1 ++ flat f b := by simp [flat]
theorem lenN_cons (x : It × Nat) (b : List (It × Nat)) : lenN (x :: b) = x.1.bs.length + lenN b := by simp [lenN, flat_cons]
theorem jmps_append (a b : List (It × Nat)) (p : Nat) : jmps (a ++ b) p = jmps a p ++ jmps b (p + lenN a) := by
  induction a generalizing p with
  | nil => simp [jmps, lenN, flat]
  | cons x a ih => rw [List.cons_append, jmps, jmps, ih, lenN_cons, List.append_assoc, Nat.add_assoc]
theorem labs_append (a b : List (It × Nat)) (p : Nat) : labs (a ++ b) p = labs a p ++ labs b (p + lenN a) := by
  induction a generalizing p with
  | nil => simp [labs, lenN, flat]
  | cons x a ih => rw [List.cons_append, labs, labs, ih, lenN_cons, List.append_assoc, Nat.add_assoc]
theorem lkp_labs (a : List (It × Nat)) (s : List Nat) (p : Nat) : lkp (labs a p) s = plcL a s p := by
  induction a generalizing p with
  | nil => rfl
  | cons x a ih =>
    rw [labs, plcL, ← ih]
    unfold isL lkp
    by_cases h : x.1.code < 0
    · rw [if_pos h, List.cons_append, List.nil_append, List.find?_cons]
      by_cases h2 : x.1.lab == s
      · simp [h, h2]
      · have h3 : (x.1.lab == s) = false := by simpa using h2
        simp only [h3]
        simp [h]
    · simp [h]
theorem tw_lkp (acc : List (It × Nat)) (x : It) (p : Nat) : tw acc x = (decide (x.code < 0) && (lkp (labs acc p) x.lab).isSome) := by
  rw [lkp_labs]
  unfold tw
  congr 1
  induction acc generalizing p with
  | nil => rfl
  | cons y r ih =>
    rw [List.any_cons, plcL, ih (p + y.1.bs.length)]
    by_cases h : isL y.1 x.lab = true
    · simp [h]
    · have : isL y.1 x.lab = false := by simpa using h
      simp [this]
theorem put2_len (c : List Nat) (q p : Nat) : (put2 c q p).length = c.length := by simp [put2]
theorem put2_mid (pre a b : List Nat) (h : a.length = 3) (p : Nat) : put2 (pre ++ (a ++ b)) pre.length p = pre ++ ([a.getD 0 0, p / 256 % 256, p % 256] ++ b) := by
  match a, h with
  | [x, y, z], _ =>
    unfold put2
    have e1 : ∀ (a b : List Nat) (i v : Nat), (a ++ b).set (a.length + i) v = a ++ b.set i v := fun a b i v => by
      rw [List.set_append, if_neg (by omega), Nat.add_sub_cancel_left]
    rw [e1, e1]; rfl
def outM (all : List (It × Nat)) (x : It) : List Nat := if x.tg = [] then x.bs else [x.bs.getD 0 0, min ((plcL all x.tg 0).getD 0) 1024 / 256 % 256, min ((plcL all x.tg 0).getD 0) 1024 % 256]
theorem pat_all (all : List (It × Nat)) : ∀ (l : List (It × Nat)) (pre : List Nat), (∀ x ∈ l, ItOK x.1) → patN (labs all 0) (jmps l pre.length) (pre ++ flat (·.bs) l) = match badN all l with
    | some k => .inl k
    | none => .inr (pre ++ flat (outM all) l)
  | [], pre, _ => rfl
  | x :: l, pre, h => by
    have hx := h x List.mem_cons_self
    have ih := fun pre => pat_all all l pre fun y hy => h y (List.mem_cons_of_mem _ hy)
    rw [jmps, badN, flat_cons, flat_cons]
    by_cases ht : x.1.tg = []
    · rw [if_pos ht, if_neg (by simp [ht]), List.nil_append, outM, if_pos ht]
      have := ih (pre ++ x.1.bs)
      rw [List.length_append] at this
      rw [← List.append_assoc, ← List.append_assoc, this]
    · rw [if_neg ht, List.cons_append, List.nil_append, patN, lkp_labs]
      cases hp : plcL all x.1.tg 0 with
      | none => simp only; rw [if_pos ⟨ht, trivial⟩]
      | some p =>
        simp only
        rw [if_neg (by simp)]
        have h3 := (hx.1 ht).1
        rw [put2_mid pre x.1.bs _ h3]
        have := ih (pre ++ [x.1.bs.getD 0 0, min p 1024 / 256 % 256, min p 1024 % 256])
        rw [List.length_append] at this
        rw [h3, ← List.append_assoc]
        simp only [List.length_cons, List.length_nil, Nat.zero_add] at this
        rw [this]
        simp only [outM, if_neg ht, hp, Option.getD_some, ← List.append_assoc]
theorem plcL_le (l : List (It × Nat)) (s : List Nat) : ∀ p q, plcL l s p = some q → q ≤ p + lenN l := by
  induction l with
  | nil => intro p q h; simp [plcL] at h
  | cons x r ih =>
    intro p q h
    rw [plcL] at h
    rw [lenN_cons]
    split at h
    · simp only [Option.some.injEq] at h; omega
    · have := ih _ _ h; omega
theorem outM_outB (all : List (It × Nat)) (h : lenN all ≤ 1024) (x : It) : outM all x = outB all x := by
  unfold outM outB
  have : (plcL all x.tg 0).getD 0 ≤ 1024 := by
    cases hp : plcL all x.tg 0 with
    | none => exact Nat.zero_le _
    | some q => have := plcL_le all x.tg 0 q hp; simp only [Option.getD_some]; omega
  rw [Nat.min_eq_left this]
theorem len_outM (all : List (It × Nat)) : ∀ (l : List (It × Nat)), (∀ x ∈ l, ItOK x.1) → (flat (outM all) l).length = lenN l
  | [], _ => rfl
  | x :: l, h => by
    have hx := h x List.mem_cons_self
    rw [flat_cons, lenN_cons, List.length_append, len_outM all l fun y hy => h y (List.mem_cons_of_mem _ hy)]
    unfold outM
    split
    · rfl
    · rename_i h3; rw [(hx.1 h3).1]; rfl
theorem len_outB (all : List (It × Nat)) : ∀ (l : List (It × Nat)), (∀ x ∈ l, ItOK x.1) → (flat (outB all) l).length = lenN l
  | [], _ => rfl
  | x :: l, h => by
    have hx := h x List.mem_cons_self
    rw [flat_cons, lenN_cons, List.length_append, len_outB all l fun y hy => h y (List.mem_cons_of_mem _ hy)]
    unfold outB
    split
    · rfl
    · rename_i h3; rw [(hx.1 h3).1]; rfl
theorem index_cons1 (b c : UInt8) (l : List UInt8) : Lib.index (b :: l) [c] = if b = c then 0 else if Lib.index l [c] = -1 then -1 else Lib.index l [c] + 1 := by
  rw [Lib.index]
  by_cases h : b = c
  · subst h; simp [List.isPrefixOf]
  · have hp : ([c] : List UInt8).isPrefixOf (b :: l) = false := by simp [List.isPrefixOf, Ne.symm h]
    rw [hp, if_neg (by simp), if_neg h]
    by_cases h2 : Lib.index l [c] = -1
    · rw [if_pos h2, if_pos (beq_iff_eq.2 h2)]
    · rw [if_neg h2, if_neg (fun e => h2 (beq_iff_eq.1 e))]
theorem splK (l : List UInt8) : ∃ h t, Lib.splitK [10] 0 (Lib.count l [10]) l = h :: t ∧ ∀ cur, spl10 cur (l.map (·.toNat)) = (cur ++ h.map (·.toNat)) :: t.map (·.map (·.toNat)) := by
  induction l with
  | nil => exact ⟨[], [], by rw [Lib.count_miss (by simp [Lib.index])]; rfl, fun cur => by simp [spl10]⟩
  | cons b l ih =>
    obtain ⟨h, t, e, hs⟩ := ih
    by_cases hb : b = 10
    · subst hb
      have hix : Lib.index (10 :: l) [10] = ((0 : Nat) : Int) := by rw [index_cons1]; simp
      have hm : ¬ (Lib.index (10 :: l) [10] == -1) = true := by rw [hix]; decide
      refine ⟨[], h :: t, ?_, fun cur => ?_⟩
      · rw [Lib.count_hit (by simp) hix, Nat.add_comm 1, Lib.splitK, if_neg hm, hix]
        simp only [Int.toNat_natCast, List.length_cons, List.length_nil, Nat.zero_add, List.drop_succ_cons, List.drop_zero, Nat.add_zero, List.take_zero]
        rw [e]
      · have e1 : (10 : UInt8).toNat = 10 := rfl
        rw [List.map_cons, spl10, e1, if_pos rfl, hs []]
        simp
    · have hne : ¬ b.toNat = 10 := fun h => hb (UInt8.toNat_inj.1 h)
      by_cases hm : Lib.index l [10] = -1
      · have hm2 : Lib.index (b :: l) [10] = -1 := by rw [index_cons1, if_neg hb, if_pos hm]
        have e2 : h = l ∧ t = [] := by
          rw [Lib.count_miss hm] at e
          simpa [Lib.splitK, eq_comm] using e
        obtain ⟨rfl, rfl⟩ := e2
        refine ⟨b :: h, [], by rw [Lib.count_miss hm2]; rfl, fun cur => ?_⟩
        rw [List.map_cons, spl10, if_neg hne, hs]
        simp
      · have hge := Lib.index_ge l [10]
        obtain ⟨j, hj⟩ : ∃ j : Nat, Lib.index l [10] = j := ⟨(Lib.index l [10]).toNat, by omega⟩
        have hj2 : Lib.index (b :: l) [10] = ((j + 1 : Nat) : Int) := by rw [index_cons1, if_neg hb, if_neg hm, hj]; omega
        rw [Lib.count_hit (by simp) hj, Nat.add_comm 1, Lib.splitK, if_neg (fun e => by have := beq_iff_eq.1 e; omega), hj] at e
        simp only [Int.toNat_natCast, Nat.add_zero, List.length_cons, List.length_nil, Nat.zero_add, List.cons.injEq] at e
        obtain ⟨e1, e2⟩ := e
        refine ⟨b :: h, t, ?_, fun cur => ?_⟩
        · rw [Lib.count_hit (by simp) hj2, Nat.add_comm 1, Lib.splitK, if_neg (fun e => by have := beq_iff_eq.1 e; omega), hj2]
          simp only [Int.toNat_natCast, Nat.add_zero, List.length_cons, List.length_nil, Nat.zero_add, List.take_succ_cons, List.drop_succ_cons]
          rw [e1, e2]
        · rw [List.map_cons, spl10, if_neg hne, hs]
          simp
theorem bys_split (s : ByteArray) : (Lib.splitB ⟨#[10]⟩ 0 (Lib.countB s ⟨#[10]⟩) s).map bys = spl10 [] (bys s) := by
  obtain ⟨h, t, e, hs⟩ := splK s.data.toList
  have := Lib.splitB_data ⟨#[10]⟩ 0 (Lib.countB s ⟨#[10]⟩) s
  have e2 : (Lib.splitB ⟨#[10]⟩ 0 (Lib.countB s ⟨#[10]⟩) s).map bys = ((Lib.splitB ⟨#[10]⟩ 0 (Lib.countB s ⟨#[10]⟩) s).map (·.data.toList)).map (·.map (·.toNat)) := by
    rw [List.map_map]; rfl
  rw [e2, this]
  have e3 : Lib.splitK [10] 0 (Lib.count s.data.toList [10]) s.data.toList = h :: t := e
  rw [show (⟨#[10]⟩ : ByteArray).data.toList = [10] from rfl]
  show (Lib.splitK [10] 0 (Lib.count s.data.toList [10]) s.data.toList).map _ = _
  rw [e3]
  unfold bys
  rw [hs []]
  simp
theorem cut_hash (l : List UInt8) : ((Lib.cut l [35]).1.map (·.toNat)) = (l.map (·.toNat)).takeWhile (· != 35) := by
  have key : ∀ l : List UInt8, (Lib.cut l [35]).1 = l.takeWhile (· != 35) := by
    intro l
    induction l with
    | nil => simp [Lib.cut, Lib.index]
    | cons b l ih =>
      unfold Lib.cut at ih ⊢
      rw [index_cons1]
      by_cases h : b = 35
      · subst h; simp
      · have e : (b :: l).takeWhile (· != 35) = b :: l.takeWhile (· != 35) := by rw [List.takeWhile_cons, if_pos (by simpa using h)]
        rw [if_neg h, e, ← ih]
        have hge := Lib.index_ge l [35]
        by_cases hm : Lib.index l [35] = -1
        · rw [if_pos hm, if_neg (by decide), if_neg (by omega)]
        · rw [if_neg hm, if_pos (by omega), if_pos (by omega)]
          have : (Lib.index l [35] + 1).toNat = (Lib.index l [35]).toNat + 1 := by omega
          rw [this]; rfl
  rw [key]
  induction l with
  | nil => rfl
  | cons b l ih =>
    rw [List.map_cons, List.takeWhile_cons, List.takeWhile_cons]
    by_cases h : b = 35
    · subst h; rfl
    · have h2 : ¬ b.toNat = 35 := fun e => h (UInt8.toNat_inj.1 e)
      rw [if_pos (by simpa using h), if_pos (by simpa using h2), List.map_cons, ih]
theorem fld_cut (cur l : List Nat) : fld cur (l.takeWhile (· != 35)) = fld cur l := by
  induction l generalizing cur with
  | nil => rfl
  | cons c l ih =>
    rw [List.takeWhile_cons]
    by_cases h : c = 35
    · rw [if_neg (by simp [h]), fld, fld, if_pos h]
    · rw [if_pos (by simpa using h), fld, fld, if_neg h, if_neg h, ih, ih]
theorem suff (l : List UInt8) : Lib.hasSuffix l [58] = decide ((l.map (·.toNat)).getLast? = some 58) ∧ (Lib.hasSuffix l [58] = true → (Lib.trimSuffix l [58]).map (·.toNat) = (l.map (·.toNat)).dropLast) := by
  have h1 : Lib.hasSuffix l [58] = decide ((l.map (·.toNat)).getLast? = some 58) := by
    unfold Lib.hasSuffix
    rw [Bool.eq_iff_iff, List.isSuffixOf_iff_suffix, decide_eq_true_iff, List.getLast?_map]
    constructor
    · rintro ⟨t, rfl⟩; simp
    · intro h
      rw [Option.map_eq_some_iff] at h
      obtain ⟨a, ha, hb⟩ := h
      have : a = 58 := UInt8.toNat_inj.1 hb
      subst this
      obtain ⟨ys, rfl⟩ := List.getLast?_eq_some_iff.1 ha
      exact ⟨ys, rfl⟩
  refine ⟨h1, fun h => ?_⟩
  unfold Lib.trimSuffix
  rw [if_pos h, List.dropLast_eq_take, List.map_take, List.length_map]
  rfl
def blank (r : Nat) : Bool := r == 32 || r == 9
theorem dec_hi (n b0 b1 b2 b3 : Nat) (h : 128 ≤ b0) : 128 ≤ (Lib.decodeN n b0 b1 b2 b3).1 ∧ ((Lib.decodeN n b0 b1 b2 b3).2 = 1 ∨ ((Lib.decodeN n b0 b1 b2 b3).2 = 2 ∧ 128 ≤ b1) ∨ ((Lib.decodeN n b0 b1 b2 b3).2 = 3 ∧ 128 ≤ b1 ∧ 128 ≤ b2) ∨ ((Lib.decodeN n b0 b1 b2 b3).2 = 4 ∧ 128 ≤ b1 ∧ 128 ≤ b2 ∧ 128 ≤ b3)) := by
  unfold Lib.decodeN
  repeat' split
  all_goals refine ⟨?_, ?_⟩
  all_goals first
    | (show 128 ≤ _; omega)
    | exact .inl rfl
    | exact .inr (.inl ⟨rfl, by omega⟩)
    | exact .inr (.inr (.inl ⟨rfl, by omega, by omega⟩))
    | exact .inr (.inr (.inr ⟨rfl, by omega, by omega, by omega⟩))
theorem bys_getD (s : ByteArray) (i : Nat) : (s.data.toList.getD i 0).toNat = (bys s).getD i 0 := by
  unfold bys
  rw [List.getD_eq_getElem?_getD, List.getD_eq_getElem?_getD, List.getElem?_map]
  cases s.data.toList[i]? <;> rfl
theorem bys_extract (s : ByteArray) (a b : Nat) : bys (s.extract a b) = ((bys s).drop a).take (b - a) := by
  unfold bys
  rw [Lib.extract_data, List.map_take, List.map_drop]
theorem fld_skip : ∀ (k : Nat) (l cur : List Nat), (∀ i, i < k → i < l.length ∧ l.getD i 0 ≠ 35 ∧ l.getD i 0 ≠ 32 ∧ l.getD i 0 ≠ 9) → fld cur l = fld (cur ++ l.take k) (l.drop k)
  | 0, l, cur, _ => by simp
  | k + 1, [], cur, h => by have := (h 0 (by omega)).1; simp at this
  | k + 1, c :: l, cur, h => by
    obtain ⟨_, h1, h2, h3⟩ := h 0 (by omega)
    simp only [List.getD_cons_zero] at h1 h2 h3
    rw [fld, if_neg h1, if_neg (by omega), fld_skip k l (cur ++ [c]) fun i hi => by
      have := h (i + 1) (by omega)
      simp only [List.length_cons, List.getD_cons_succ] at this
      exact ⟨by omega, this.2⟩]
    simp
def openP (s : ByteArray) (st : Option Nat) (pos : Nat) : List Nat := match st with
  | some a => ((bys s).drop a).take (pos - a)
  | none => []
theorem openP_grow (s : ByteArray) (a pos k : Nat) (h : a ≤ pos) : openP s (some a) pos ++ ((bys s).drop pos).take k = openP s (some a) (pos + k) := by
  have e : (bys s).drop pos = ((bys s).drop a).drop (pos - a) := by rw [List.drop_drop]; congr 1; omega
  show ((bys s).drop a).take (pos - a) ++ _ = ((bys s).drop a).take (pos + k - a)
  rw [e, show pos + k - a = (pos - a) + k by omega, List.take_add]
theorem clo_open (s : ByteArray) (a pos : Nat) (h : a < pos) (hp : pos ≤ s.size) : clo (openP s (some a) pos) = [openP s (some a) pos] := by
  unfold clo
  rw [if_neg]
  intro h0
  have := congrArg List.length h0
  unfold openP at this
  rw [List.length_take, List.length_drop, length_bys] at this
  simp at this
  omega
theorem flds_end (s : ByteArray) (pos : Nat) (st : Option Nat) (acc : List (Nat × Nat)) (hp : pos = s.size) (hst : ∀ a, st = some a → a < pos) : (Lib.closeSpans s (acc, st)).map (fun x => bys (s.extract x.1 x.2)) = acc.map (fun x => bys (s.extract x.1 x.2)) ++ fld (openP s st pos) ((bys s).drop pos) := by
  subst hp
  rw [List.drop_of_length_le (by rw [length_bys]; exact Nat.le_refl _), fld]
  cases st with
  | none => simp [Lib.closeSpans, openP, clo]
  | some a =>
    rw [clo_open s a _ (hst a rfl) (Nat.le_refl _)]
    simp only [Lib.closeSpans, List.map_append, List.map_cons, List.map_nil, bys_extract]
    rfl
theorem flds (s : ByteArray) (h35 : ∀ i, i < s.size → (bys s).getD i 0 ≠ 35) : ∀ (f pos : Nat) (st : Option Nat) (acc : List (Nat × Nat)), s.size ≤ pos + f → pos ≤ s.size → (∀ a, st = some a → a < pos) →
    (Lib.closeSpans s (Lib.spansFromP blank s f pos st acc)).map (fun x => bys (s.extract x.1 x.2)) = acc.map (fun x => bys (s.extract x.1 x.2)) ++ fld (openP s st pos) ((bys s).drop pos)
  | 0, pos, st, acc, h1, h2, h3 => flds_end s pos st acc (by omega) h3
  | f + 1, pos, st, acc, h1, h2, h3 => by
    by_cases hp : pos < s.size
    · have hlen : pos < (bys s).length := by rw [length_bys]; exact hp
      have hd : (bys s).drop pos = (bys s).getD pos 0 :: (bys s).drop (pos + 1) := by
        rw [List.getD_eq_getElem?_getD, List.getElem?_eq_getElem hlen]; exact List.drop_eq_getElem_cons hlen
      rw [Lib.spansFromP.eq_def]
      simp only [hp, if_true]
      rw [Lib.decode_N, bys_getD, bys_getD, bys_getD, bys_getD, ← Lib.size_eq]
      have hwn := Lib.decodeN_le_n' (s.size - pos) ((bys s).getD pos 0) ((bys s).getD (pos + 1) 0) ((bys s).getD (pos + 2) 0) ((bys s).getD (pos + 3) 0) (by omega)
      by_cases hb : (bys s).getD pos 0 < 128
      · rw [Lib.decodeN_ascii _ _ _ _ _ hb]
        simp only
        by_cases hbl : blank ((bys s).getD pos 0) = true
        · rw [if_pos hbl]
          have hbl2 : (bys s).getD pos 0 = 32 ∨ (bys s).getD pos 0 = 9 := by simpa [blank] using hbl
          rw [hd, fld, if_neg (h35 pos hp), if_pos hbl2]
          cases st with
          | none =>
            simp only
            rw [flds s h35 f (pos + 1) none acc (by omega) (by omega) (fun a h => by cases h)]
            simp [openP, clo]
          | some a =>
            simp only
            rw [flds s h35 f (pos + 1) none _ (by omega) (by omega) (fun a h => by cases h), clo_open s a pos (h3 a rfl) h2]
            simp only [List.map_append, List.map_cons, List.map_nil, bys_extract, List.append_assoc]
            rfl
        · rw [if_neg hbl]
          have hbl2 : ¬ ((bys s).getD pos 0 = 32 ∨ (bys s).getD pos 0 = 9) := by simpa [blank] using hbl
          rw [hd, fld, if_neg (h35 pos hp), if_neg hbl2]
          have e1 : ((bys s).drop pos).take 1 = [(bys s).getD pos 0] := by rw [hd]; rfl
          cases st with
          | none =>
            simp only
            rw [flds s h35 f (pos + 1) (some pos) acc (by omega) (by omega) (fun a h => by cases h; omega), ← openP_grow s pos pos 1 (Nat.le_refl _), e1]
            simp [openP]
          | some a =>
            simp only
            rw [flds s h35 f (pos + 1) (some a) acc (by omega) (by omega) (fun b h => by cases h; have := h3 a rfl; omega), ← openP_grow s a pos 1 (by have := h3 a rfl; omega), e1]
      · obtain ⟨hr, hk⟩ := dec_hi (s.size - pos) ((bys s).getD pos 0) ((bys s).getD (pos + 1) 0) ((bys s).getD (pos + 2) 0) ((bys s).getD (pos + 3) 0) (by omega)
        generalize Lib.decodeN (s.size - pos) ((bys s).getD pos 0) ((bys s).getD (pos + 1) 0) ((bys s).getD (pos + 2) 0) ((bys s).getD (pos + 3) 0) = rk at hr hk hwn ⊢
        obtain ⟨r, k⟩ := rk
        simp only at hr hk hwn ⊢
        have hk1 : 1 ≤ k := by omega
        have hbl : ¬ blank r = true := by simp [blank]; omega
        rw [if_neg hbl]
        have hall : ∀ i, i < k → i < ((bys s).drop pos).length ∧ ((bys s).drop pos).getD i 0 ≠ 35 ∧ ((bys s).drop pos).getD i 0 ≠ 32 ∧ ((bys s).drop pos).getD i 0 ≠ 9 := by
          intro i hi
          have e : ((bys s).drop pos).getD i 0 = (bys s).getD (pos + i) 0 := by
            rw [List.getD_eq_getElem?_getD, List.getD_eq_getElem?_getD, List.getElem?_drop]
          have : 128 ≤ (bys s).getD (pos + i) 0 := by
            have h4 : i = 0 ∨ i = 1 ∨ i = 2 ∨ i = 3 := by omega
            rcases h4 with rfl | rfl | rfl | rfl
            · rw [Nat.add_zero]; omega
            · omega
            · omega
            · omega
          rw [e, List.length_drop, length_bys]
          omega
        rw [fld_skip k _ _ hall, List.drop_drop]
        cases st with
        | none =>
          simp only
          rw [flds s h35 f (pos + k) (some pos) acc (by omega) (by omega) (fun a h => by cases h; omega), ← openP_grow s pos pos k (Nat.le_refl _)]
          simp [openP]
        | some a =>
          simp only
          rw [flds s h35 f (pos + k) (some a) acc (by omega) (by omega) (fun b h => by cases h; have := h3 a rfl; omega), ← openP_grow s a pos k (by have := h3 a rfl; omega)]
    · rw [Lib.spansFromP_end _ _ _ _ _ _ hp]
      exact flds_end s pos st acc (by omega) h3
theorem words_lib (s : ByteArray) : (Lib.goFieldsP blank ⟨(Lib.cut s.data.toList [35]).1.toArray⟩).map bys = wordsN (bys s) := by
  have hc : bys ⟨(Lib.cut s.data.toList [35]).1.toArray⟩ = (bys s).takeWhile (· != 35) := cut_hash s.data.toList
  have hg : ∀ t : ByteArray, (Lib.goFieldsP blank t).map bys = (Lib.closeSpans t (Lib.spansFromP blank t t.size 0 none [])).map (fun x => bys (t.extract x.1 x.2)) := fun t => by
    unfold Lib.goFieldsP Lib.spansOfP
    rw [List.map_map]; rfl
  rw [hg, flds _ (fun i hi => by
    rw [hc]
    rw [← length_bys, hc] at hi
    have := List.all_eq_true.1 (List.all_takeWhile (p := (· != 35)) (l := bys s)) _ (List.getElem_mem hi)
    rw [List.getD_eq_getElem?_getD, List.getElem?_eq_getElem hi]
    simpa using this) _ 0 none [] (by omega) (Nat.zero_le _) (fun a h => by cases h)]
  rw [hc]
  simp only [List.map_nil, List.nil_append, List.drop_zero, openP]
  exact fld_cut [] (bys s)
section
variable {P : Program} {w : World} {ρ : Operand → Value} {dst : Option Tmp} {ty : TypeId} {pos : String} {af : Array Edge} {g : Option (Nat × Bool)} {x y z : Operand} {T : TypeId}
theorem extract_bstr (s : ByteArray) (a b : Nat) : s.extract a b = bstr (((bys s).drop a).take (b - a)) := by rw [← bys_extract, bstr_bys]
theorem R.strMid {k k' : IntKind} {i j : Int} {s : ByteArray} (hT : P.underlying T = some .string) (hx : ρ x = .string s) (hy : ρ y = .int k i) (hz : ρ z = .int k' j) (h0 : 0 ≤ i) (h1 : i ≤ j) (h2 : j ≤ s.size) :
    (execOp ρ ⟨dst, .slice T x (some y) (some z) none, ty, pos, af, g⟩).run P w = .ok (.value (.string (bstr (((bys s).drop i.toNat).take (j.toNat - i.toNat))))) w := by
  have := run_slice_string (P := P) w T s k k' i j hT h0 h1 h2
  simp only [execOp, hx, hy, hz, Option.map_some, Option.map_none, run_sliceAt_string _ _ _ _ _ _ hT, this, Sem.run_bind, Sem.run_pure, Result.andThen_ok, extract_bstr]
theorem R.strTo {k : IntKind} {j : Int} {s : ByteArray} (hT : P.underlying T = some .string) (hx : ρ x = .string s) (hz : ρ z = .int k j) (h0 : 0 ≤ j) (h2 : j ≤ s.size) :
    (execOp ρ ⟨dst, .slice T x none (some z) none, ty, pos, af, g⟩).run P w = .ok (.value (.string (bstr ((bys s).take j.toNat)))) w := by
  have := run_slice_string_to_if (P := P) w T s k j hT
  rw [if_pos ⟨h0, h2⟩, extract_bstr, List.drop_zero, Nat.sub_zero] at this
  simp only [execOp, hx, hz, Option.map_some, Option.map_none, run_sliceAt_string _ _ _ _ _ _ hT, this, Sem.run_bind, Sem.run_pure, Result.andThen_ok]
theorem R.strFrom {k : IntKind} {i : Int} {s : ByteArray} (hT : P.underlying T = some .string) (hx : ρ x = .string s) (hz : ρ z = .int k i) (h0 : 0 ≤ i) (h2 : i ≤ s.size) :
    (execOp ρ ⟨dst, .slice T x (some z) none none, ty, pos, af, g⟩).run P w = .ok (.value (.string (bstr ((bys s).drop i.toNat)))) w := by
  have := run_slice_string_from_if (P := P) w T s k i hT
  rw [if_pos ⟨h0, h2⟩, extract_bstr, List.take_of_length_le (by rw [List.length_drop, length_bys]; omega)] at this
  simp only [execOp, hx, hz, Option.map_some, Option.map_none, run_sliceAt_string _ _ _ _ _ _ hT, this, Sem.run_bind, Sem.run_pure, Result.andThen_ok]
end
theorem take_snoc {α : Type} (d : α) (xs : List α) (i : Nat) (h : i < xs.length) : xs.take (i + 1) = xs.take i ++ [xs.getD i d] := by
  rw [List.take_succ_eq_append_getElem h, List.getD_eq_getElem?_getD, List.getElem?_eq_getElem h]; rfl
theorem drop_cons {α : Type} (d : α) (xs : List α) (i : Nat) (h : i < xs.length) : xs.drop i = xs.getD i d :: xs.drop (i + 1) := by
  rw [List.getD_eq_getElem?_getD, List.getElem?_eq_getElem h]; exact List.drop_eq_getElem_cons h
theorem okL_head {xs : List Nat} (h : xs.length < 1 ∨ 30 < xs.length ∨ ¬ (97 ≤ xs.getD 0 0 ∧ xs.getD 0 0 ≤ 122 ∨ 65 ≤ xs.getD 0 0 ∧ xs.getD 0 0 ≤ 90)) : okL xs = false := by
  unfold okL isLet
  rcases h with h | h | h
  · have : Nat.ble 1 xs.length = false := by rw [← Bool.not_eq_true, Nat.ble_eq]; omega
    rw [this]; rfl
  · have : Nat.ble xs.length 30 = false := by rw [← Bool.not_eq_true, Nat.ble_eq]; omega
    rw [this]; simp
  · rw [decide_eq_false h]; simp
theorem okL_bad {xs : List Nat} {i : Nat} (hi : i < xs.length) (h : ¬ ((97 ≤ xs.getD i 0 ∧ xs.getD i 0 ≤ 122 ∨ 65 ≤ xs.getD i 0 ∧ xs.getD i 0 ≤ 90) ∨ (48 ≤ xs.getD i 0 ∧ xs.getD i 0 ≤ 57) ∨ xs.getD i 0 = 95)) : okL xs = false := by
  have : xs.all labC = false := by
    rw [Bool.eq_false_iff]; intro ha
    have := List.all_eq_true.1 ha (xs.getD i 0) (by rw [List.getD_eq_getElem?_getD, List.getElem?_eq_getElem hi]; exact List.getElem_mem hi)
    exact h (of_decide_eq_true this)
  unfold okL
  rw [this]; simp
theorem okL_good {xs : List Nat} (h : ¬ (xs.length < 1 ∨ 30 < xs.length ∨ ¬ (97 ≤ xs.getD 0 0 ∧ xs.getD 0 0 ≤ 122 ∨ 65 ≤ xs.getD 0 0 ∧ xs.getD 0 0 ≤ 90))) (ha : xs.all labC = true) : okL xs = true := by
  have h1 : 1 ≤ xs.length ∧ xs.length ≤ 30 ∧ (97 ≤ xs.getD 0 0 ∧ xs.getD 0 0 ≤ 122 ∨ 65 ≤ xs.getD 0 0 ∧ xs.getD 0 0 ≤ 90) := by omega
  unfold okL isLet
  rw [ha, decide_eq_true h1.2.2, show Nat.ble 1 xs.length = true from by rw [Nat.ble_eq]; exact h1.1, show Nat.ble xs.length 30 = true from by rw [Nat.ble_eq]; exact h1.2.1]; rfl
theorem lab_step {xs : List Nat} {i : Nat} (hi : i < xs.length) (ha : (xs.take i).all labC = true) (h : (97 ≤ xs.getD i 0 ∧ xs.getD i 0 ≤ 122 ∨ 65 ≤ xs.getD i 0 ∧ xs.getD i 0 ≤ 90) ∨ (48 ≤ xs.getD i 0 ∧ xs.getD i 0 ≤ 57) ∨ xs.getD i 0 = 95) : (xs.take (i + 1)).all labC = true := by
  rw [take_snoc 0 xs i hi, List.all_append, ha]
  simp only [List.all_cons, List.all_nil, Bool.and_true, Bool.true_and]
  exact decide_eq_true h
theorem byt_take {xs : List Nat} (h : Byt xs) (k : Nat) : Byt (xs.take k) := fun b hb => h b (List.mem_of_mem_take hb)
theorem last_getD {xs : List Nat} (h : 0 < xs.length) : xs.getLast? = some (xs.getD (xs.length - 1) 0) := by
  rw [List.getLast?_eq_getElem?, List.getD_eq_getElem?_getD, List.getElem?_eq_getElem (by omega)]; rfl
theorem lbl_isLab (xs : List Nat) : (lblN xs).2 = isLab xs [] ∧ (isLab xs [] = true → (lblN xs).1 = xs.dropLast) := by
  unfold lblN isLab
  simp only [decide_true, Bool.true_and]
  by_cases h0 : 0 < xs.length
  · rw [last_getD h0]
    by_cases h : xs.length < 2 ∨ 31 < xs.length ∨ ¬ xs.getD (xs.length - 1) 0 = 58
    · rw [if_pos h]
      have hf : (decide (some (xs.getD (xs.length - 1) 0) = some 58) && okL xs.dropLast) = false := by
        by_cases h2 : xs.getD (xs.length - 1) 0 = 58
        · have : okL xs.dropLast = false := okL_head (by rw [List.length_dropLast]; omega)
          rw [this]; simp
        · have : ¬ some (xs.getD (xs.length - 1) 0) = some 58 := fun e => h2 (Option.some.inj e)
          rw [decide_eq_false this]; rfl
      rw [hf]
      exact ⟨rfl, fun h => by cases h⟩
    · rw [if_neg h]
      have h2 : xs.getD (xs.length - 1) 0 = 58 := by omega
      rw [h2, List.dropLast_eq_take]
      simp
  · have : xs = [] := by
      cases xs with
      | nil => rfl
      | cons a l => simp at h0
    subst this
    simp
theorem codeN_hit {xs : List Nat} {i : Nat} (hi : i < 28) (h : nameN i = xs) (hn : ∀ j, j < i → nameN j ≠ xs) : codeN xs = i := by
  unfold codeN
  have hl : namesL.length = 28 := rfl
  rw [List.findIdx_eq (by omega)]
  refine ⟨?_, fun j hj => ?_⟩
  · rw [← h]; unfold nameN; rw [List.getD_eq_getElem?_getD, List.getElem?_eq_getElem (by omega)]; simp
  · have := hn j hj
    unfold nameN at this
    rw [List.getD_eq_getElem?_getD, List.getElem?_eq_getElem (by omega)] at this
    simpa using this
theorem codeN_none {xs : List Nat} (hn : ∀ j, j < 28 → nameN j ≠ xs) : codeN xs = 28 := by
  unfold codeN
  have hl : namesL.length = 28 := rfl
  rw [← hl]
  refine List.findIdx_eq_length.2 fun x hx => ?_
  obtain ⟨j, hj, rfl⟩ := List.mem_iff_getElem.1 hx
  have := hn j (by omega)
  unfold nameN at this
  rw [List.getD_eq_getElem?_getD, List.getElem?_eq_getElem hj] at this
  simpa using this
theorem byt_name (j : Nat) : Byt (nameN j) := by
  by_cases h : j < 28
  · have : ∀ j, j < 28 → ∀ b ∈ nameN j, b < 256 := by decide
    exact this j h
  · unfold nameN; rw [List.getD_eq_getElem?_getD, List.getElem?_eq_none (by show 28 ≤ j; omega)]
    intro b hb; cases hb
theorem name_str {j : Nat} {s : ByteArray} : bstr (nameN j) = s ↔ nameN j = bys s := by
  constructor
  · rintro rfl; exact (bys_bstr (byt_name j)).symm
  · intro h; rw [h, bstr_bys]
theorem trim0_len (l : List Nat) : (trim0 l).length ≤ l.length ∧ (l ≠ [] → 0 < (trim0 l).length) ∧ (Byt l → Byt (trim0 l)) := by
  induction l with
  | nil => exact ⟨Nat.le_refl _, fun h => absurd rfl h, fun h => h⟩
  | cons c r ih =>
    rw [trim0]
    split
    · rename_i h
      exact ⟨by have := ih.1; simp only [List.length_cons]; omega, fun _ => ih.2.1 h.2, fun hb => ih.2.2 fun b hb2 => hb b (List.mem_cons_of_mem _ hb2)⟩
    · exact ⟨Nat.le_refl _, fun _ => by simp, fun h => h⟩
theorem trim0_drop {l : List Nat} : ∀ j, j < l.length → (∀ i, i < j → l.getD i 0 = 0) → trim0 l = trim0 (l.drop j) := by
  induction l with
  | nil => intro j h; simp at h
  | cons c r ih =>
    intro j h hz
    cases j with
    | zero => rfl
    | succ j =>
      have h0 : c = 0 := hz 0 (by omega)
      have h1 : r ≠ [] := by
        intro e; subst e; simp at h
      rw [trim0, if_pos ⟨h0, h1⟩, List.drop_succ_cons]
      exact ih j (by simpa using h) fun i hi => by have := hz (i + 1) (by omega); simpa using this
theorem trim0_stop {l : List Nat} (h : l.length = 1 ∨ l.getD 0 0 ≠ 0) : trim0 l = l := by
  cases l with
  | nil => rfl
  | cons c r =>
    rw [trim0, if_neg]
    rintro ⟨h1, h2⟩
    rcases h with h | h
    · simp only [List.length_cons] at h; exact h2 (List.eq_nil_of_length_eq_zero (by omega))
    · exact h h1
theorem psh_len (n : Nat) : 3 ≤ (pshN n).length ∧ (pshN n).length ≤ 34 ∧ Byt (pshN n) := by
  have h := trim0_len (toB 32 n)
  have h1 : (toB 32 n).length = 32 := length_toB 32 n
  have h2 : 0 < (trim0 (toB 32 n)).length := h.2.1 (by intro e; rw [e] at h1; simp at h1)
  have h3 := h.1
  unfold pshN
  simp only [List.length_cons]
  refine ⟨by omega, by omega, fun b hb => ?_⟩
  rcases List.mem_cons.1 hb with rfl | hb
  · decide
  rcases List.mem_cons.1 hb with rfl | hb
  · omega
  · exact h.2.2 toB_lt b hb
theorem ins_ok {c n : Nat} {b : List Nat} {x : It} (h : insM c n b = some x) : ItOK x ∧ ¬ x.code < 0 := by
  unfold insM at h
  split at h
  · cases h
  rename_i h1
  have hc : c < 28 := by omega
  split at h
  · obtain rfl := (Option.some.inj h).symm
    exact ⟨⟨fun h => absurd rfl h, fun h => by simp only at h; omega, fun _ => by simp, fun d hd => by simp at hd; omega, by simp⟩, by simp only; omega⟩
  split at h
  · split at h
    · obtain rfl := (Option.some.inj h).symm
      exact ⟨⟨fun h => ⟨rfl, by simp only; omega⟩, fun h => by simp only at h; omega, fun _ => by simp, fun d hd => by simp at hd; omega, by simp⟩, by simp only; omega⟩
    · cases h
  split at h
  · cases h
  rename_i m _
  split at h
  · obtain rfl := (Option.some.inj h).symm
    have hp := psh_len m
    exact ⟨⟨fun h => absurd rfl h, fun h => by simp only at h; omega, fun _ => by show 0 < (pshN m).length; omega, hp.2.2, hp.2.1⟩, by simp only; omega⟩
  split at h
  · cases h
  rename_i h5
  obtain rfl := (Option.some.inj h).symm
  have hm : m ≤ 255 := by have : mostN c ≤ 255 := by (unfold mostN; split <;> omega); 
                          omega
  exact ⟨⟨fun h => absurd rfl h, fun h => by simp only at h; omega, fun _ => by simp, fun d hd => by simp at hd; omega, by simp⟩, by simp only; omega⟩
theorem und_ok {ws : List (List Nat)} {x : It} (h : undN ws = some x) : ItOK x := by
  unfold undN at h
  split at h
  · obtain rfl := (Option.some.inj h).symm
    exact ⟨fun h => absurd rfl h, fun _ => ⟨rfl, rfl⟩, fun h => absurd (show (-1 : Int) < 0 by decide) h, fun b hb => by simp at hb, by simp⟩
  · exact (ins_ok h).1
theorem tok_big {a m l : Nat} (ha : a < 115792089237316195423570985008687907853269984665640564039457584007913129639936) (hm : m ≤ 255) (hl : l ≤ m) : (¬ dg a 1 = 0 ∨ ¬ dg a 2 = 0 ∨ ¬ dg a 3 = 0 ∨ m < dg a 0 ∨ dg a 0 < l) ↔ (m < a ∨ a < l) := by
  rw [dg0, dg1, dg2, dg3]
  omega
end Go.Proofs.YtlapmbkfmbkdoaaGreatDoor
end
section
namespace Go.Proofs.YtlapmbkfmbkdoaaGreatDoor
open Go Go.Fw Go.RowKit
attribute [local irreducible] Go.Oper.wp Go.Code.wp Go.wpList Go.Fw.WL Go.Calls
theorem letter_calls (c : Nat) (w0 : World) : Ret Tryz.prog 131 [.int .u8 ((c : Nat) : Int)] w0 [] (fun v s => v = .bool (decide (97 ≤ c ∧ c ≤ 122 ∨ 65 ≤ c ∧ c ≤ 90)) ∧ s = []) := by
 refine fn_start Tryz.func131 Y Tryz.ntmps131 Y [(0, .int .u8 ((c : Nat) : Int))] ⟨Y, trivial⟩ ?_
 intro Q a hP J hR hN
 have G := St.start w0
 refine wp_seq_k fun K1 hK1=> wp_region_lit <| av J Y Y fun a J=> s0 <| then_n (hK1 _ _ <| wp_seq_k fun K2 hK2=> wp_region_lit <| mv J Y Y fun a J=> sw J Y Y Y (R.geq (J.ev Y) (J.ev Y)) fun a J=> mv J Y Y fun a J=> J.splitD (t := 5) Y (fun h5 J=> ?_) (fun h5 J=> ?_))
 ·refine my J Y Y Y Y fun a J=> sv' J (wy J Y Y Y) Y Y (R.leq (J.ev Y) (J.ev Y)) fun a J=> pT J Y Y Y fun a J=> mv J Y Y fun a J=> J.splitD (t := 9) Y (fun h9 J=> ?_) (fun h9 J=> ?_)
  ·refine kz J Y Y Y Y Y Y fun a J=> kz J Y Y Y Y Y Y fun a J=> kz J Y Y Y Y Y Y fun a J=> ku J Y Y Y Y Y fun a J=> ku J Y Y Y Y Y fun a J=> kz J Y Y Y Y Y Y fun a J=> pT J Y Y Y fun a J=> av J Y Y fun a J=> s0 <| then_n (hK2 _ _ <| wp_ret (hR _ _ _ _ _ J (run_results Tryz.results131 (.t J Y (.nil))) ?_))
   exact ⟨_, [], Y, ⟨(congrArg Value.bool (by first | exact (decide_eq_true (by omega)).symm | exact (decide_eq_false (by omega)).symm | exact decide_eq_decide.2 (by omega))), Y⟩, G.none⟩
  refine my J Y Y Y Y fun a J=> sv' J (wy J Y Y Y) Y Y (R.geq (J.ev Y) (J.ev Y)) fun a J=> my J Y Y Y Y fun a J=> J.splitD (t := 12) Y (fun h12 J=> ?_) (fun h12 J=> ?_)
  ·refine my J Y Y Y Y fun a J=> sv' J (wy J Y Y Y) Y Y (R.leq (J.ev Y) (J.ev Y)) fun a J=> sv' J (wy J Y Y Y) Y Y (R.pickT (J.ev Y) (J.ev Y)) fun a J=> pF J Y Y Y fun a J=> av J Y Y fun a J=> s0 <| then_n (hK2 _ _ <| wp_ret (hR _ _ _ _ _ J (run_results Tryz.results131 (.t J Y (.nil))) ?_))
   exact ⟨_, [], Y, ⟨(congrArg Value.bool (by first | exact (decide_eq_true (by omega)).symm | exact (decide_eq_false (by omega)).symm | exact decide_eq_decide.2 (by omega))), Y⟩, G.none⟩
  refine kz J Y Y Y Y Y Y fun a J=> kz J Y Y Y Y Y Y fun a J=> sv' J (wy J Y Y Y) Y Y (R.pickF (J.ev Y) (J.ev Y)) fun a J=> pF J Y Y Y fun a J=> av J Y Y fun a J=> s0 <| then_n (hK2 _ _ <| wp_ret (hR _ _ _ _ _ J (run_results Tryz.results131 (.t J Y (.nil))) ?_))
  exact ⟨_, [], Y, ⟨(congrArg Value.bool (by first | exact (decide_eq_true (by omega)).symm | exact (decide_eq_false (by omega)).symm | exact decide_eq_decide.2 (by omega))), Y⟩, G.none⟩
 refine kz J Y Y Y Y Y Y fun a J=> kz J Y Y Y Y Y Y fun a J=> pF J Y Y Y fun a J=> mv J Y Y fun a J=> my J Y Y Y Y fun a J=> sv' J (wy J Y Y Y) Y Y (R.geq (J.ev Y) (J.ev Y)) fun a J=> my J Y Y Y Y fun a J=> J.splitD (t := 12) Y (fun h12 J=> ?_) (fun h12 J=> ?_)
 ·refine my J Y Y Y Y fun a J=> sv' J (wy J Y Y Y) Y Y (R.leq (J.ev Y) (J.ev Y)) fun a J=> sv' J (wy J Y Y Y) Y Y (R.pickT (J.ev Y) (J.ev Y)) fun a J=> pF J Y Y Y fun a J=> av J Y Y fun a J=> s0 <| then_n (hK2 _ _ <| wp_ret (hR _ _ _ _ _ J (run_results Tryz.results131 (.t J Y (.nil))) ?_))
  exact ⟨_, [], Y, ⟨(congrArg Value.bool (by first | exact (decide_eq_true (by omega)).symm | exact (decide_eq_false (by omega)).symm | exact decide_eq_decide.2 (by omega))), Y⟩, G.none⟩
 refine kz J Y Y Y Y Y Y fun a J=> kz J Y Y Y Y Y Y fun a J=> sv' J (wy J Y Y Y) Y Y (R.pickF (J.ev Y) (J.ev Y)) fun a J=> pF J Y Y Y fun a J=> av J Y Y fun a J=> s0 <| then_n (hK2 _ _ <| wp_ret (hR _ _ _ _ _ J (run_results Tryz.results131 (.t J Y (.nil))) ?_))
 exact ⟨_, [], Y, ⟨(congrArg Value.bool (by first | exact (decide_eq_true (by omega)).symm | exact (decide_eq_false (by omega)).symm | exact decide_eq_decide.2 (by omega))), Y⟩, G.none⟩
theorem digit_calls (c : Nat) (w0 : World) : Ret Tryz.prog 132 [.int .u8 ((c : Nat) : Int)] w0 [] (fun v s => v = .bool (decide (48 ≤ c ∧ c ≤ 57)) ∧ s = []) := by
 refine fn_start Tryz.func132 Y Tryz.ntmps132 Y [(0, .int .u8 ((c : Nat) : Int))] ⟨Y, trivial⟩ ?_
 intro Q a hP J hR hN
 have G := St.start w0
 refine wp_seq_k fun K1 hK1=> wp_region_lit <| av J Y Y fun a J=> s0 <| then_n (hK1 _ _ <| wp_seq_k fun K2 hK2=> wp_region_lit <| mv J Y Y fun a J=> sw J Y Y Y (R.geq (J.ev Y) (J.ev Y)) fun a J=> mv J Y Y fun a J=> J.splitD (t := 5) Y (fun h5 J=> ?_) (fun h5 J=> ?_))
 ·refine my J Y Y Y Y fun a J=> sv' J (wy J Y Y Y) Y Y (R.leq (J.ev Y) (J.ev Y)) fun a J=> pT J Y Y Y fun a J=> av J Y Y fun a J=> s0 <| then_n (hK2 _ _ <| wp_ret (hR _ _ _ _ _ J (run_results Tryz.results132 (.t J Y (.nil))) ?_))
  exact ⟨_, [], Y, ⟨(congrArg Value.bool (by first | exact (decide_eq_true (by omega)).symm | exact (decide_eq_false (by omega)).symm | exact decide_eq_decide.2 (by omega))), Y⟩, G.none⟩
 refine kz J Y Y Y Y Y Y fun a J=> kz J Y Y Y Y Y Y fun a J=> pF J Y Y Y fun a J=> av J Y Y fun a J=> s0 <| then_n (hK2 _ _ <| wp_ret (hR _ _ _ _ _ J (run_results Tryz.results132 (.t J Y (.nil))) ?_))
 exact ⟨_, [], Y, ⟨(congrArg Value.bool (by first | exact (decide_eq_true (by omega)).symm | exact (decide_eq_false (by omega)).symm | exact decide_eq_decide.2 (by omega))), Y⟩, G.none⟩
theorem named_calls (s : ByteArray) (w0 : World) : Ret Tryz.prog 104 [.string s] w0 [] (fun v q => v = .bool (okL (bys s)) ∧ q = []) := by
 refine fn_start Tryz.func104 Y Tryz.ntmps104 Y [(0, .string s)] ⟨Y, trivial⟩ ?_
 intro Q a hP J hR hN
 have G := St.start w0
 have hlen := length_bys s
 refine wp_seq_k fun K1 hK1=> wp_region_lit <| av J Y Y fun a J=> s0 <| then_n (hK1 _ _ <| wp_seq_k fun K2 hK2=> wp_seq_k fun K3 hK3=> ?_)
 have hK3' : ∀ a w, (Fr 42 [(0, .string s), (17, .bool (decide (s.size < 1 ∨ 30 < s.size ∨ ¬ (97 ≤ ((bys s).getD 0 0) ∧ ((bys s).getD 0 0) ≤ 122 ∨ 65 ≤ ((bys s).getD 0 0) ∧ ((bys s).getD 0 0) ≤ 90))))] a ∧ St w0 [] [] w) → K3 a w := by
  rintro a w ⟨J, G⟩
  refine hK3 _ _ ?_
  refine cD J Y (fun c0=> ?_) (fun c0=> ?_)
  ·have hpn : okL (bys s) = false := okL_head (by omega)
   refine wp_seq_k fun K4 hK4=> wp_region_lit <| av J Y Y fun a J=> s0 <| then_n (hK4 _ _ <| wp_ret (then_r (hR _ _ _ _ _ J (run_results Tryz.results104 (.t J Y (.nil))) ?_)))
   exact ⟨_, [], Y, ⟨by rw [hpn]; rfl, Y⟩, G.none⟩
  have hgood := c0
  refine wp_skip <| then_n (hK2 _ _ <| wp_seq_k fun K5 hK5=> wp_seq_k fun K6 hK6=> wp_region_lit <| av J Y Y fun a J=> s0 <| then_n (hK6 _ _ <| wp_block <| wp_loop_N (fun g a w=> ∃ (i : Nat), s.size - i = g ∧ Fr 42 [(0, .string s), (3, .int .i64 ((i : Nat) : Int))] a ∧ St w0 [] [] w ∧ (i ≤ s.size) ∧ (((bys s).take i).all labC = true)) (s.size - 0) ?_ ?_))
  ·exact ⟨0, Y, J.sub ⟨Y, Y, trivial⟩, G.sel [] Y Y, by omega, Y⟩
  rintro KL1 g a w ⟨i, hg1, J, G, hi, hal⟩ hKL1
  refine wp_seq_k fun K7 hK7=> wp_seq_k fun K8 hK8=> wp_region_lit <| mv J Y Y fun a J=> mv J Y Y fun a J=> sw J Y Y Y (R.lenS Tryz.underlying9 (J.ev Y)) fun a J=> lS J Y Y Y fun a J=> s0 <| then_n (hK8 _ _ <| cD J Y (fun c1=> ?_) (fun c1=> ?_))
  ·refine wp_skip <| then_n (hK7 _ _ <| wp_seq_k fun K9 hK9=> wp_block <| wp_seq_k fun K10 hK10=> ?_)
   have hK10' : ∀ a w, (Fr 42 [(0, .string s), (3, .int .i64 ((i : Nat) : Int)), (41, .bool (decide (¬ (97 ≤ ((bys s).getD i 0) ∧ ((bys s).getD i 0) ≤ 122 ∨ 65 ≤ ((bys s).getD i 0) ∧ ((bys s).getD i 0) ≤ 90) ∧ ¬ (48 ≤ ((bys s).getD i 0) ∧ ((bys s).getD i 0) ≤ 57) ∧ ¬ ((bys s).getD i 0) = 95)))] a ∧ St w0 [] [] w) → K10 a w := by
    rintro a w ⟨J, G⟩
    refine hK10 _ _ ?_
    refine cD J Y (fun c2=> ?_) (fun c2=> ?_)
    ·have hpn : okL (bys s) = false := okL_bad (i := i) (by omega) (by omega)
     refine wp_seq_k fun K11 hK11=> wp_region_lit <| av J Y Y fun a J=> s0 <| then_n (hK11 _ _ <| wp_ret (blk_r (then_r (then_r (blk_r (then_r (hR _ _ _ _ _ J (run_results Tryz.results104 (.t J Y (.nil))) ?_)))))))
     exact ⟨_, [], Y, ⟨by rw [hpn]; rfl, Y⟩, G.none⟩
    refine wp_skip <| blk_n <| then_n (hK9 _ _ <| wp_region_lit <| mv J Y Y fun a J=> aI J Y Y Y (by omega) fun a J=> av J Y Y fun a J=> s0 <| then_n (hKL1 (s.size - (i + 1)) _ _ ?_ ?_))
    ·omega
    exact ⟨i + 1, Y, J.sub ⟨Y, (congrArg (fun z => some (Value.int .i64 z)) (by omega)), trivial⟩, G.sel [] Y Y, by omega, lab_step (by omega) hal (by omega)⟩
   refine wp_region_lit <| mv J Y Y fun a J=> mv J Y Y fun a J=> sw J Y Y Y (R.as (u := .int .u8 ((((bys s).getD i 0) : Nat) : Int)) (R.chr Tryz.underlying9 (J.ev Y) (J.ev Y) (by omega) (by omega)) (Y)) fun a J=> so (wn Y) (O.call Y Y J ent131 (J.evs Y) G (letter_calls ((bys s).getD i 0) _) fun v s27 a w hR J G=> ?_)
   obtain ⟨rfl, rfl⟩ := hR
   refine sw J Y Y Y ((by first | exact R.notD (J.ev Y) | exact R.not (J.ev Y))) fun a J=> ?_
   refine mv J Y Y fun a J=> J.splitD (t := 29) Y (fun h29 J=> ?_) (fun h29 J=> ?_)
   ·refine my J Y Y Y Y fun a J=> my J Y Y Y Y fun a J=> sv' J (wy J Y Y Y) Y Y (R.as (u := .int .u8 ((((bys s).getD i 0) : Nat) : Int)) (R.chr Tryz.underlying9 (J.ev Y) (J.ev Y) (by omega) (by omega)) (Y)) fun a J=> so (wy J Y Y Y) (O.call Y Y J ent132 (J.evs Y) G (digit_calls ((bys s).getD i 0) _) fun v s33 a w hR J G=> ?_)
    obtain ⟨rfl, rfl⟩ := hR
    refine sv' J (wy J Y Y Y) Y Y ((by first | exact R.notD (J.ev Y) | exact R.not (J.ev Y))) fun a J=> ?_
    refine pT J Y Y Y fun a J=> mv J Y Y fun a J=> J.splitD (t := 36) Y (fun h36 J=> ?_) (fun h36 J=> ?_)
    ·refine my J Y Y Y Y fun a J=> my J Y Y Y Y fun a J=> sv' J (wy J Y Y Y) Y Y (R.as (u := .int .u8 ((((bys s).getD i 0) : Nat) : Int)) (R.chr Tryz.underlying9 (J.ev Y) (J.ev Y) (by omega) (by omega)) (Y)) fun a J=> sv' J (wy J Y Y Y) Y Y (R.neq (J.ev Y) (J.ev Y)) fun a J=> pT J Y Y Y fun a J=> s0 ?_
     exact then_n (hK10' _ _ ⟨J.sub ⟨Y, Y, (congrArg (fun z => some (Value.bool z)) (by first | exact (decide_eq_true (by omega)).symm | exact (decide_eq_false (by omega)).symm | exact decide_eq_decide.2 (by omega))), trivial⟩, G.sel [] Y Y⟩)
    refine kz J Y Y Y Y Y Y fun a J=> kz J Y Y Y Y Y Y fun a J=> kz J Y Y Y Y Y Y fun a J=> kz J Y Y Y Y Y Y fun a J=> pF J Y Y Y fun a J=> s0 ?_
    exact then_n (hK10' _ _ ⟨J.sub ⟨Y, Y, (congrArg (fun z => some (Value.bool z)) (by first | exact (decide_eq_true (by omega)).symm | exact (decide_eq_false (by omega)).symm | exact decide_eq_decide.2 (by omega))), trivial⟩, G.sel [] Y Y⟩)
   refine kz J Y Y Y Y Y Y fun a J=> kz J Y Y Y Y Y Y fun a J=> kz J Y Y Y Y Y Y fun a J=> kz J Y Y Y Y Y Y fun a J=> kz J Y Y Y Y Y Y fun a J=> pF J Y Y Y fun a J=> mv J Y Y fun a J=> kz J Y Y Y Y Y Y fun a J=> kz J Y Y Y Y Y Y fun a J=> kz J Y Y Y Y Y Y fun a J=> kz J Y Y Y Y Y Y fun a J=> pF J Y Y Y fun a J=> s0 ?_
   exact then_n (hK10' _ _ ⟨J.sub ⟨Y, Y, (congrArg (fun z => some (Value.bool z)) (by first | exact (decide_eq_true (by omega)).symm | exact (decide_eq_false (by omega)).symm | exact decide_eq_decide.2 (by omega))), trivial⟩, G.sel [] Y Y⟩)
  obtain rfl : i = s.size := by omega
  have htk : (bys s).take s.size = bys s := by rw [← hlen, List.take_length]
  rw [htk] at hal
  have hpn : okL (bys s) = true := okL_good (by omega) hal
  refine wp_exit (then_x (then_x (blk_hit <| then_n (hK5 _ _ <| wp_seq_k fun K12 hK12=> wp_region_lit <| av J Y Y fun a J=> s0 <| then_n (hK12 _ _ <| wp_ret (hR _ _ _ _ _ J (run_results Tryz.results104 (.t J Y (.nil))) ?_))))))
  exact ⟨_, [], Y, ⟨by rw [hpn]; rfl, Y⟩, G.none⟩
 refine wp_region_lit <| mv J Y Y fun a J=> sw J Y Y Y (R.lenS Tryz.underlying9 (J.ev Y)) fun a J=> lS J Y Y Y fun a J=> mv J Y Y fun a J=> J.splitD (t := 7) Y (fun h7 J=> ?_) (fun h7 J=> ?_)
 ·refine kz J Y Y Y Y Y Y fun a J=> kz J Y Y Y Y Y Y fun a J=> kz J Y Y Y Y Y Y fun a J=> pT J Y Y Y fun a J=> mv J Y Y fun a J=> kz J Y Y Y Y Y Y fun a J=> kz J Y Y Y Y Y Y fun a J=> kz J Y Y Y Y Y Y fun a J=> kz J Y Y Y Y Y Y fun a J=> pT J Y Y Y fun a J=> s0 ?_
  exact then_n (hK3' _ _ ⟨J.sub ⟨Y, (congrArg (fun z => some (Value.bool z)) (by first | exact (decide_eq_true (by omega)).symm | exact (decide_eq_false (by omega)).symm | exact decide_eq_decide.2 (by omega))), trivial⟩, G.sel [] Y Y⟩)
 refine my J Y Y Y Y fun a J=> sv' J (wy J Y Y Y) Y Y (R.lenS Tryz.underlying9 (J.ev Y)) fun a J=> sv' J (wy J Y Y Y) Y Y (R.gtr (J.ev Y) (J.ev Y)) fun a J=> pF J Y Y Y fun a J=> mv J Y Y fun a J=> J.splitD (t := 12) Y (fun h12 J=> ?_) (fun h12 J=> ?_)
 ·refine kz J Y Y Y Y Y Y fun a J=> kz J Y Y Y Y Y Y fun a J=> kz J Y Y Y Y Y Y fun a J=> kz J Y Y Y Y Y Y fun a J=> pT J Y Y Y fun a J=> s0 ?_
  exact then_n (hK3' _ _ ⟨J.sub ⟨Y, (congrArg (fun z => some (Value.bool z)) (by first | exact (decide_eq_true (by omega)).symm | exact (decide_eq_false (by omega)).symm | exact decide_eq_decide.2 (by omega))), trivial⟩, G.sel [] Y Y⟩)
 refine my J Y Y Y Y fun a J=> sv' J (wy J Y Y Y) Y Y (R.as (u := .int .u8 ((((bys s).getD 0 0) : Nat) : Int)) (R.chr Tryz.underlying9 (J.ev Y) (J.ev Y) (by omega) (by simp only [Int.toNat_zero]; omega)) (Y)) fun a J=> so (wy J Y Y Y) (O.call Y Y J ent131 (J.evs Y) G (letter_calls ((bys s).getD 0 0) _) fun v s15 a w hR J G=> ?_)
 obtain ⟨rfl, rfl⟩ := hR
 refine sv' J (wy J Y Y Y) Y Y ((by first | exact R.notD (J.ev Y) | exact R.not (J.ev Y))) fun a J=> ?_
 refine pF J Y Y Y fun a J=> s0 ?_
 exact then_n (hK3' _ _ ⟨J.sub ⟨Y, (congrArg (fun z => some (Value.bool z)) (by first | exact (decide_eq_true (by omega)).symm | exact (decide_eq_false (by omega)).symm | exact decide_eq_decide.2 (by omega))), trivial⟩, G.sel [] Y Y⟩)
theorem labelled_calls (s : ByteArray) (w0 : World) : Ret Tryz.prog 102 [.string s] w0 [] (fun v q => v = .tuple #[.string (bstr (lblN (bys s)).1), .bool (lblN (bys s)).2] ∧ q = []) := by
 refine fn_start Tryz.func102 Y Tryz.ntmps102 Y [(0, .string s)] ⟨Y, trivial⟩ ?_
 intro Q a hP J hR hN
 have G := St.start w0
 have hlen := length_bys s
 refine wp_seq_k fun K1 hK1=> wp_region_lit <| av J Y Y fun a J=> av J Y Y fun a J=> s0 <| then_n (hK1 _ _ <| wp_seq_k fun K2 hK2=> wp_seq_k fun K3 hK3=> ?_)
 have hK3' : ∀ a w, (Fr 29 [(0, .string s), (20, .bool (decide (s.size < 2 ∨ 31 < s.size ∨ ¬ ((bys s).getD (s.size - 1) 0) = 58)))] a ∧ St w0 [] [] w) → K3 a w := by
  rintro a w ⟨J, G⟩
  refine hK3 _ _ ?_
  refine cD J Y (fun c0=> ?_) (fun c0=> ?_)
  ·have hpn : lblN (bys s) = ([], false) := if_pos (by rw [hlen]; exact c0)
   refine wp_seq_k fun K4 hK4=> wp_region_lit <| av J Y Y fun a J=> av J Y Y fun a J=> s0 <| then_n (hK4 _ _ <| wp_ret (then_r (hR _ _ _ _ _ J (run_results Tryz.results102 (.t J Y (.t J Y (.nil)))) ?_)))
   exact ⟨_, [], Y, ⟨by rw [hpn]; rfl, Y⟩, G.none⟩
  have hpn : lblN (bys s) = (((bys s).take (s.size - 1)), okL ((bys s).take (s.size - 1))) := by (unfold lblN; rw [hlen, if_neg c0])
  refine wp_skip <| then_n (hK2 _ _ <| wp_seq_k fun K5 hK5=> wp_region_lit <| mv J Y Y fun a J=> mv J Y Y fun a J=> sw J Y Y Y (R.lenS Tryz.underlying9 (J.ev Y)) fun a J=> sw J Y Y Y (R.subI (J.ev Y) (J.ev Y) (by omega)) fun a J=> sw J Y Y Y (R.as (u := .string (bstr ((bys s).take (s.size - 1)))) (R.strTo Tryz.underlying9 (J.ev Y) (J.ev Y) (by omega) (by omega)) (congrArg (fun z : Nat=> Value.string (bstr ((bys s).take z))) (by omega))) fun a J=> av J Y Y fun a J=> s0 <| then_n (hK5 _ _ <| wp_seq_k fun K6 hK6=> wp_region_lit <| mv J Y Y fun a J=> mv J Y Y fun a J=> so (wn Y) (O.call Y Y J ent104 (J.evs Y) G (named_calls (bstr ((bys s).take (s.size - 1))) _) fun v s28 a w hR J G=> ?_)))
  obtain ⟨rfl, rfl⟩ := hR
  refine av J Y Y fun a J=> av J Y Y fun a J=> s0 <| then_n (hK6 _ _ <| wp_ret (hR _ _ _ _ _ J (run_results Tryz.results102 (.t J Y (.t J Y (.nil)))) ?_))
  exact ⟨_, [], Y, ⟨by rw [hpn, bys_bstr (byt_take (byt_bys s) _)]; rfl, Y⟩, G.none⟩
 refine wp_region_lit <| mv J Y Y fun a J=> sw J Y Y Y (R.lenS Tryz.underlying9 (J.ev Y)) fun a J=> lS J Y Y Y fun a J=> mv J Y Y fun a J=> J.splitD (t := 8) Y (fun h8 J=> ?_) (fun h8 J=> ?_)
 ·refine kz J Y Y Y Y Y Y fun a J=> kz J Y Y Y Y Y Y fun a J=> kz J Y Y Y Y Y Y fun a J=> pT J Y Y Y fun a J=> mv J Y Y fun a J=> kz J Y Y Y Y Y Y fun a J=> kz J Y Y Y Y Y Y fun a J=> kz J Y Y Y Y Y Y fun a J=> kz J Y Y Y Y Y Y fun a J=> kz J Y Y Y Y Y Y fun a J=> kz J Y Y Y Y Y Y fun a J=> pT J Y Y Y fun a J=> s0 ?_
  exact then_n (hK3' _ _ ⟨J.sub ⟨Y, (congrArg (fun z => some (Value.bool z)) (by first | exact (decide_eq_true (by omega)).symm | exact (decide_eq_false (by omega)).symm | exact decide_eq_decide.2 (by omega))), trivial⟩, G.sel [] Y Y⟩)
 refine my J Y Y Y Y fun a J=> sv' J (wy J Y Y Y) Y Y (R.lenS Tryz.underlying9 (J.ev Y)) fun a J=> sv' J (wy J Y Y Y) Y Y (R.gtr (J.ev Y) (J.ev Y)) fun a J=> pF J Y Y Y fun a J=> mv J Y Y fun a J=> J.splitD (t := 13) Y (fun h13 J=> ?_) (fun h13 J=> ?_)
 ·refine kz J Y Y Y Y Y Y fun a J=> kz J Y Y Y Y Y Y fun a J=> kz J Y Y Y Y Y Y fun a J=> kz J Y Y Y Y Y Y fun a J=> kz J Y Y Y Y Y Y fun a J=> kz J Y Y Y Y Y Y fun a J=> pT J Y Y Y fun a J=> s0 ?_
  exact then_n (hK3' _ _ ⟨J.sub ⟨Y, (congrArg (fun z => some (Value.bool z)) (by first | exact (decide_eq_true (by omega)).symm | exact (decide_eq_false (by omega)).symm | exact decide_eq_decide.2 (by omega))), trivial⟩, G.sel [] Y Y⟩)
 refine my J Y Y Y Y fun a J=> my J Y Y Y Y fun a J=> sv' J (wy J Y Y Y) Y Y (R.lenS Tryz.underlying9 (J.ev Y)) fun a J=> sv' J (wy J Y Y Y) Y Y (R.subI (J.ev Y) (J.ev Y) (by omega)) fun a J=> sv' J (wy J Y Y Y) Y Y (R.as (u := .int .u8 ((((bys s).getD (s.size - 1) 0) : Nat) : Int)) (R.chr Tryz.underlying9 (J.ev Y) (J.ev Y) (by omega) (by omega)) (congrArg (fun z : Nat=> Value.int .u8 (((bys s).getD z 0 : Nat) : Int)) (by omega))) fun a J=> sv' J (wy J Y Y Y) Y Y (R.neq (J.ev Y) (J.ev Y)) fun a J=> pF J Y Y Y fun a J=> s0 ?_
 exact then_n (hK3' _ _ ⟨J.sub ⟨Y, (congrArg (fun z => some (Value.bool z)) (by first | exact (decide_eq_true (by omega)).symm | exact (decide_eq_false (by omega)).symm | exact decide_eq_decide.2 (by omega))), trivial⟩, G.sel [] Y Y⟩)
theorem rcodeOf_calls (s : ByteArray) (w0 : World) : Ret Tryz.prog 103 [.string s] w0 [] (fun v q => v = .int .i64 (if codeN (bys s) < 28 then ((codeN (bys s) : Nat) : Int) else -1) ∧ q = []) := by
 refine fn_start Tryz.func103 Y Tryz.ntmps103 Y [(0, .string s)] ⟨Y, trivial⟩ ?_
 intro Q a hP J hR hN
 have G := St.start w0
 refine wp_seq_k fun K1 hK1=> wp_region_lit <| av J Y Y fun a J=> s0 <| then_n (hK1 _ _ <| wp_seq_k fun K2 hK2=> wp_seq_k fun K3 hK3=> wp_region_lit <| av J Y Y fun a J=> s0 <| then_n (hK3 _ _ <| wp_block <| wp_loop_N (fun g a w=> ∃ (i : Nat), 28 - i = g ∧ Fr 13 [(0, .string s), (3, .int .i64 ((i : Nat) : Int))] a ∧ St w0 [] [] w ∧ (i ≤ 28) ∧ (∀ j, j < i → nameN j ≠ bys s)) (28 - 0) ?_ ?_))
 ·exact ⟨0, Y, J.sub ⟨Y, Y, trivial⟩, G.sel [] Y Y, by omega, (fun j hj => absurd hj (Nat.not_lt_zero j))⟩
 rintro KL1 g a w ⟨i, hg1, J, G, hi, hno⟩ hKL1
 refine wp_seq_k fun K4 hK4=> wp_seq_k fun K5 hK5=> wp_region_lit <| mv J Y Y fun a J=> lS J Y Y Y fun a J=> s0 <| then_n (hK5 _ _ <| cD J Y (fun c1=> ?_) (fun c1=> ?_))
 ·refine wp_skip <| then_n (hK4 _ _ <| wp_seq_k fun K6 hK6=> wp_block <| wp_seq_k fun K7 hK7=> wp_region_lit <| mv J Y Y fun a J=> so (wn Y) (O.call Y Y J ent27 (J.evs Y) G (name_calls i _ (by omega)) fun v s9 a w hR J G=> ?_))
  obtain ⟨rfl, rfl⟩ := hR
  refine mv J Y Y fun a J=> sw J Y Y Y (R.as (u := .bool (decide (nameN i = bys s))) (R.eqlStr (J.ev Y) (J.ev Y)) (congrArg Value.bool (decide_eq_decide.2 name_str))) fun a J=> s0 <| then_n (hK7 _ _ <| cD J Y (fun c2=> ?_) (fun c2=> ?_))
  ·have hpn := codeN_hit (by omega) c2 hno
   refine wp_seq_k fun K8 hK8=> wp_region_lit <| mv J Y Y fun a J=> av J Y Y fun a J=> s0 <| then_n (hK8 _ _ <| wp_ret (blk_r (then_r (then_r (blk_r (then_r (hR _ _ _ _ _ J (run_results Tryz.results103 (.t J Y (.nil))) ?_)))))))
   exact ⟨_, [], Y, ⟨by rw [hpn]; first | rfl | (rw [if_pos (by omega)]; rfl), Y⟩, G.none⟩
  refine wp_skip <| blk_n <| then_n (hK6 _ _ <| wp_region_lit <| mv J Y Y fun a J=> aI J Y Y Y (by omega) fun a J=> av J Y Y fun a J=> s0 <| then_n (hKL1 (28 - (i + 1)) _ _ ?_ ?_))
  ·omega
  exact ⟨i + 1, Y, J.sub ⟨Y, (congrArg (fun z => some (Value.int .i64 z)) (by omega)), trivial⟩, G.sel [] Y Y, by omega, (fun j hj => by (by_cases h : j < i; exact hno j h; have : j = i := (by omega); rw [this]; exact c2))⟩
 obtain rfl : i = 28 := by omega
 have hpn := codeN_none hno
 refine wp_exit (then_x (then_x (blk_hit <| then_n (hK2 _ _ <| wp_seq_k fun K9 hK9=> wp_region_lit <| av J Y Y fun a J=> s0 <| then_n (hK9 _ _ <| wp_ret (hR _ _ _ _ _ J (run_results Tryz.results103 (.t J Y (.nil))) ?_))))))
 exact ⟨_, [], Y, ⟨by rw [hpn]; first | rfl | (rw [if_pos (by omega)]; rfl), Y⟩, G.none⟩
end Go.Proofs.YtlapmbkfmbkdoaaGreatDoor
end
section
namespace Go.Proofs.YtlapmbkfmbkdoaaGreatDoor
open Go Go.Fw Go.RowKit
attribute [local irreducible] Go.Oper.wp Go.Code.wp Go.wpList Go.Fw.WL Go.Calls
def curN (xs : List Nat) (k i : Nat) : List Nat := (xs.drop k).take (i - k)
theorem cur_self (xs : List Nat) (i : Nat) : curN xs i i = [] := by unfold curN; rw [Nat.sub_self]; rfl
theorem cur_snoc (xs : List Nat) (k i : Nat) (h : k ≤ i) (hi : i < xs.length) : curN xs k (i + 1) = curN xs k i ++ [xs.getD i 0] := by
  unfold curN
  rw [show i + 1 - k = (i - k) + 1 by omega, take_snoc 0 _ _ (by rw [List.length_drop]; omega)]
  congr 2
  rw [List.getD_eq_getElem?_getD, List.getD_eq_getElem?_getD, List.getElem?_drop]
  congr 2; omega
theorem cur_end (xs : List Nat) (k : Nat) : curN xs k xs.length = xs.drop k := by
  unfold curN; rw [List.take_of_length_le (by rw [List.length_drop]; exact Nat.le_refl _)]
theorem strs_snoc (l : List (List Nat)) (x : List Nat) : strs (l ++ [x]) = strs l ++ [.string (bstr x)] := by simp [strs]
theorem len_strs (l : List (List Nat)) : (strs l).length = l.length := by simp [strs]
def linesT (xs : List Nat) : List (List Nat) := spl10 [] xs
theorem spl_hit {xs : List Nat} {i : Nat} (k : Nat) (hi : i < xs.length) (h : xs.getD i 0 = 10) : spl10 (curN xs k i) (xs.drop i) = curN xs k i :: spl10 (curN xs (i + 1) (i + 1)) (xs.drop (i + 1)) := by
  rw [drop_cons 0 xs i hi, spl10, if_pos h, cur_self]
theorem spl_miss {xs : List Nat} {i k : Nat} (hk : k ≤ i) (hi : i < xs.length) (h : ¬ xs.getD i 0 = 10) : spl10 (curN xs k i) (xs.drop i) = spl10 (curN xs k (i + 1)) (xs.drop (i + 1)) := by
  rw [drop_cons 0 xs i hi, spl10, if_neg h, cur_snoc xs k i hk hi]
def SJ (xs : List Nat) (i k : Nat) (o : List (List Nat)) : Prop := k ≤ i ∧ o.length ≤ i ∧ linesT xs = o ++ spl10 (curN xs k i) (xs.drop i)
theorem SJ_0 (xs : List Nat) : SJ xs 0 0 [] := ⟨Nat.le_refl _, Nat.le_refl _, by rw [cur_self]; rfl⟩
theorem SJ_hit {xs : List Nat} {i k m : Nat} {o : List (List Nat)} (h : SJ xs i k o) (hm : xs.length = m) (hi : i < m) (hx : xs.getD i 0 = 10) : SJ xs (i + 1) (i + 1) (o ++ [curN xs k i]) := by
  refine ⟨Nat.le_refl _, ?_, ?_⟩
  · have := h.2.1; rw [List.length_append]; simp only [List.length_cons, List.length_nil]; omega
  · rw [h.2.2, spl_hit k (by omega) hx]; simp
theorem SJ_miss {xs : List Nat} {i k m : Nat} {o : List (List Nat)} (h : SJ xs i k o) (hm : xs.length = m) (hi : i < m) (hx : ¬ xs.getD i 0 = 10) : SJ xs (i + 1) k o := by
  refine ⟨by have := h.1; omega, by have := h.2.1; omega, ?_⟩
  rw [h.2.2, spl_miss h.1 (by omega) hx]
theorem SJ_end {xs : List Nat} {k m : Nat} {o : List (List Nat)} (h : SJ xs m k o) (hm : xs.length = m) : linesT xs = o ++ [xs.drop k] := by
  subst hm
  rw [h.2.2, List.drop_of_length_le (Nat.le_refl _), spl10, cur_end]
def WJ (xs : List Nat) (i k : Nat) (o : List (List Nat)) : Prop := o.length ≤ i ∧ (i ≤ xs.length → k ≤ i ∧ wordsN xs = o ++ fld (curN xs k i) (xs.drop i)) ∧ (¬ i ≤ xs.length → wordsN xs = o)
theorem WJ_0 (xs : List Nat) : WJ xs 0 0 [] := ⟨Nat.le_refl _, fun _ => ⟨Nat.le_refl _, by rw [cur_self]; rfl⟩, fun h => absurd (Nat.zero_le _) h⟩
theorem WJ_k {xs : List Nat} {i k m : Nat} {o : List (List Nat)} (h : WJ xs i k o) (hm : xs.length = m) (hi : i ≤ m) : k ≤ i := (h.2.1 (by omega)).1
theorem clo_cur {xs : List Nat} {i k m : Nat} (hm : xs.length = m) (hi : i ≤ m) : clo (curN xs k i) = if k < i then [curN xs k i] else [] := by
  unfold clo curN
  by_cases h : k < i
  · rw [if_pos h, if_neg]
    intro h0
    have := congrArg List.length h0
    rw [List.length_take, List.length_drop] at this
    simp at this
    omega
  · rw [if_neg h, if_pos]
    rw [show i - k = 0 by omega]; rfl
theorem len_clo (l : List Nat) : (clo l).length ≤ 1 := by unfold clo; split <;> simp
theorem WJ_stop {xs : List Nat} {i k m : Nat} {o : List (List Nat)} (h : WJ xs i k o) (hm : xs.length = m) (hi : i < m) (hx : xs.getD i 0 = 35) : wordsN xs = o ++ clo (curN xs k i) := by
  rw [(h.2.1 (by omega)).2, drop_cons 0 xs i (by omega), fld, if_pos hx]
theorem WJ_sep {xs : List Nat} {i k m : Nat} {o : List (List Nat)} (h : WJ xs i k o) (hm : xs.length = m) (hi : i ≤ m) (hx : i = m ∨ xs.getD i 0 = 32 ∨ xs.getD i 0 = 9) : WJ xs (i + 1) (i + 1) (o ++ clo (curN xs k i)) := by
  refine ⟨?_, fun h2 => ⟨Nat.le_refl _, ?_⟩, fun h2 => ?_⟩
  · have := h.1; have := len_clo (curN xs k i); rw [List.length_append]; omega
  · have hx2 : xs.getD i 0 = 32 ∨ xs.getD i 0 = 9 := by omega
    rw [(h.2.1 (by omega)).2, drop_cons 0 xs i (by omega), fld, if_neg (by omega), if_pos hx2, cur_self, List.append_assoc]
  · have : i = xs.length := by omega
    rw [(h.2.1 (by omega)).2, List.drop_of_length_le (by omega), fld]
theorem WJ_go {xs : List Nat} {i k m : Nat} {o : List (List Nat)} (h : WJ xs i k o) (hm : xs.length = m) (hi : i < m) (hx : ¬ (xs.getD i 0 = 32 ∨ xs.getD i 0 = 9 ∨ xs.getD i 0 = 35)) : WJ xs (i + 1) k o := by
  refine ⟨by have := h.1; omega, fun h2 => ⟨by have := (h.2.1 (by omega)).1; omega, ?_⟩, fun h2 => absurd hi (by omega)⟩
  rw [(h.2.1 (by omega)).2, drop_cons 0 xs i (by omega), fld, if_neg (by omega), if_neg (by omega), cur_snoc xs k i (h.2.1 (by omega)).1 (by omega)]
theorem WJ_end {xs : List Nat} {i k m : Nat} {o : List (List Nat)} (h : WJ xs i k o) (hm : xs.length = m) (hi : ¬ i ≤ m) : wordsN xs = o := h.2.2 (by omega)
theorem split_calls (s : ByteArray) (w0 : World) (hs : s.size ≤ 100000) : Ret Tryz.prog 53 [.string s] w0 [] (fun v q => ∃ A d o, v = .slice A o.length d ∧ OwnS q A o.length d (strs o) 9 1 ∧ (linesT (bys s) = o ∨ linesT (bys s) = o ++ [[]])) := by
 refine fn_start Tryz.func53 Y Tryz.ntmps53 Y [(0, .string s)] ⟨Y, trivial⟩ ?_
 intro Q a hP J hR hN
 have G := St.start w0
 have hlen := length_bys s
 refine wp_seq_k fun K1 hK1=> wp_region_lit <| av J Y Y fun a J=> s0 <| then_n (hK1 _ _ <| wp_seq_k fun K2 hK2=> wp_region_lit <| av J Y Y fun a J=> s0 <| then_n (hK2 _ _ <| wp_seq_k fun K3 hK3=> ?_))
 have G := G.cons0
 refine wp_region_lit <| av J Y Y fun a J=> s0 <| then_n (hK3 _ _ <| wp_seq_k fun K4 hK4=> wp_seq_k fun K5 hK5=> wp_region_lit <| av J Y Y fun a J=> s0 <| then_n (hK5 _ _ <| wp_block <| wp_loop_N (fun g a w=> ∃ (i : Nat) (k : Nat) (A : Option Addr) (d : Nat) (z : Seg) (o : List (List Nat)), s.size - i = g ∧ Fr 36 [(0, .string s), (3, .slice A o.length d), (4, .int .i64 ((k : Nat) : Int)), (5, .int .i64 ((i : Nat) : Int))] a ∧ St w0 [] [z] w ∧ (i ≤ s.size) ∧ (OwnS z A o.length d (strs o) 9 1) ∧ (SJ (bys s) i k o)) (s.size - 0) ?_ ?_))
 ·exact ⟨0, 0, none, 0, [], [], Y, J.sub ⟨Y, Y, Y, Y, trivial⟩, G.sel [0] Y Y, by omega, OwnS.nil 9 1, SJ_0 _⟩
 rintro KL1 g a w ⟨i, k, A, d, z, o, hg1, J, G, hi, hO, hJ⟩ hKL1
 have hJ1 := hJ.1; have hJ2 := hJ.2.1
 refine wp_seq_k fun K6 hK6=> wp_seq_k fun K7 hK7=> wp_region_lit <| mv J Y Y fun a J=> mv J Y Y fun a J=> sw J Y Y Y (R.lenS Tryz.underlying9 (J.ev Y)) fun a J=> lS J Y Y Y fun a J=> s0 <| then_n (hK7 _ _ <| cD J Y (fun c1=> ?_) (fun c1=> ?_))
 ·refine wp_skip <| then_n (hK6 _ _ <| wp_seq_k fun K8 hK8=> ?_)
  have hK8' : ∀ a w, (∃ (k2 : Nat) (A2 : Option Addr) (d2 : Nat) (z2 : Seg) (o2 : List (List Nat)), Fr 36 [(0, .string s), (3, .slice A2 o2.length d2), (4, .int .i64 ((k2 : Nat) : Int)), (5, .int .i64 ((i : Nat) : Int))] a ∧ St w0 [] [z2] w ∧ (OwnS z2 A2 o2.length d2 (strs o2) 9 1) ∧ (SJ (bys s) (i + 1) k2 o2)) → K8 a w := by
   rintro a w ⟨k2, A2, d2, z2, o2, J, G, hO, hJ⟩
   refine hK8 _ _ ?_
   refine wp_region_lit <| mv J Y Y fun a J=> aI J Y Y Y (by omega) fun a J=> av J Y Y fun a J=> s0 <| then_n (hKL1 (s.size - (i + 1)) _ _ ?_ ?_)
   ·omega
   exact ⟨i + 1, k2, A2, d2, z2, o2, Y, J.sub ⟨Y, Y, Y, (congrArg (fun z => some (Value.int .i64 z)) (by omega)), trivial⟩, G.sel [0] Y Y, by omega, hO, hJ⟩
  refine wp_block <| wp_seq_k fun K9 hK9=> wp_region_lit <| mv J Y Y fun a J=> mv J Y Y fun a J=> sw J Y Y Y (R.as (u := .int .u8 ((((bys s).getD i 0) : Nat) : Int)) (R.chr Tryz.underlying9 (J.ev Y) (J.ev Y) (by omega) (by omega)) (Y)) fun a J=> eL J Y Y Y fun a J=> s0 <| then_n (hK9 _ _ <| cD J Y (fun c2=> ?_) (fun c2=> ?_))
  ·refine wp_seq_k fun K10 hK10=> wp_region_lit <| mv J Y Y fun a J=> mv J Y Y fun a J=> mv J Y Y fun a J=> mv J Y Y fun a J=> sw J Y Y Y (R.as (u := .string (bstr (curN (bys s) k i))) (R.strMid Tryz.underlying9 (J.ev Y) (J.ev Y) (J.ev Y) (by omega) (by omega) (by omega)) (Y)) fun a J=> so (wn Y) (O.buildSlice (l := [_]) Y Y J Tryz.underlying108 inf9 Y Y (J.evp Y) (by decide) Y G fun b21 a w J G=> ?_)
   refine so (wn Y) (O.append Y Y J Tryz.underlying108 inf9 Y Y (by decide) (J.ev Y) (J.ev Y) G hO (fun _=> (.t .h)) (Rd.own0 G .h) (Y) (by simp [Value.oneCell']) (by unfold maxLen; omega) (by omega) fun A22 c22 s22 a w hO22 J G=> ?_)
   refine av J Y Y fun a J=> s0 <| then_n (hK10 _ _ <| wp_region_lit <| mv J Y Y fun a J=> aI J Y Y Y (by omega) fun a J=> av J Y Y fun a J=> s0 <| blk_n ?_)
   exact then_n (hK8' _ _ ⟨i + 1, A22, c22, s22, o ++ [curN (bys s) k i], J.sub ⟨Y, (by rw [List.length_append]; rfl), (congrArg (fun z => some (Value.int .i64 z)) (by omega)), Y, trivial⟩, G.sel [1] Y Y, (by rw [List.length_append, strs_snoc]; exact hO22), SJ_hit hJ hlen (by omega) (by omega)⟩)
  refine wp_skip <| blk_n ?_
  exact then_n (hK8' _ _ ⟨k, A, d, z, o, J.sub ⟨Y, Y, Y, Y, trivial⟩, G.sel [0] Y Y, hO, SJ_miss hJ hlen (by omega) (by omega)⟩)
 obtain rfl : i = s.size := by omega
 have hE := SJ_end hJ hlen
 refine wp_exit (then_x (then_x (blk_hit <| then_n (hK4 _ _ <| wp_seq_k fun K11 hK11=> wp_seq_k fun K12 hK12=> wp_region_lit <| mv J Y Y fun a J=> mv J Y Y fun a J=> sw J Y Y Y (R.lenS Tryz.underlying9 (J.ev Y)) fun a J=> lS J Y Y Y fun a J=> s0 <| then_n (hK12 _ _ <| cD J Y (fun c3=> ?_) (fun c3=> ?_))))))
 ·refine wp_region_lit <| mv J Y Y fun a J=> mv J Y Y fun a J=> mv J Y Y fun a J=> sw J Y Y Y (R.as (u := .string (bstr ((bys s).drop k))) (R.strFrom Tryz.underlying9 (J.ev Y) (J.ev Y) (by omega) (by omega)) (Y)) fun a J=> so (wn Y) (O.buildSlice (l := [_]) Y Y J Tryz.underlying108 inf9 Y Y (J.evp Y) (by decide) Y G fun b33 a w J G=> ?_)
  refine so (wn Y) (O.append Y Y J Tryz.underlying108 inf9 Y Y (by decide) (J.ev Y) (J.ev Y) G hO (fun _=> (.t .h)) (Rd.own0 G .h) (Y) (by simp [Value.oneCell']) (by unfold maxLen; omega) (by omega) fun A34 c34 s34 a w hO34 J G=> ?_)
  refine av J Y Y fun a J=> s0 <| then_n (hK11 _ _ <| wp_seq_k fun K13 hK13=> wp_region_lit <| mv J Y Y fun a J=> av J Y Y fun a J=> s0 <| then_n (hK13 _ _ <| wp_ret (hR _ _ _ _ _ J (run_results Tryz.results53 (.t J Y (.nil))) ?_)))
  exact ⟨_, s34, Y, ⟨A34, c34, o ++ [(bys s).drop k], by rw [List.length_append]; rfl, by rw [List.length_append, strs_snoc]; exact hO34, .inl hE⟩, G.one (.t .h)⟩
 refine wp_skip <| then_n (hK11 _ _ <| wp_seq_k fun K14 hK14=> wp_region_lit <| mv J Y Y fun a J=> av J Y Y fun a J=> s0 <| then_n (hK14 _ _ <| wp_ret (hR _ _ _ _ _ J (run_results Tryz.results53 (.t J Y (.nil))) ?_)))
 exact ⟨_, z, Y, ⟨A, d, o, Y, hO, .inr (by rw [hE, List.drop_of_length_le (by omega)])⟩, G.one .h⟩
set_option maxHeartbeats 1000000 in
theorem rwords_calls (s : ByteArray) (w0 : World) (hs : s.size ≤ 100000) : Ret Tryz.prog 54 [.string s] w0 [] (fun v q => ∃ A d, v = .slice A (wordsN (bys s)).length d ∧ OwnS q A (wordsN (bys s)).length d (strs (wordsN (bys s))) 9 1) := by
 refine fn_start Tryz.func54 Y Tryz.ntmps54 Y [(0, .string s)] ⟨Y, trivial⟩ ?_
 intro Q a hP J hR hN
 have G := St.start w0
 have hlen := length_bys s
 refine wp_seq_k fun K1 hK1=> wp_region_lit <| av J Y Y fun a J=> s0 <| then_n (hK1 _ _ <| wp_seq_k fun K2 hK2=> wp_region_lit <| av J Y Y fun a J=> s0 <| then_n (hK2 _ _ <| wp_seq_k fun K3 hK3=> ?_))
 have G := G.cons0
 refine wp_region_lit <| av J Y Y fun a J=> s0 <| then_n (hK3 _ _ <| wp_seq_k fun K4 hK4=> wp_seq_k fun K5 hK5=> wp_region_lit <| av J Y Y fun a J=> s0 <| then_n (hK5 _ _ <| wp_block <| wp_loop_N (fun g a w=> ∃ (i : Nat) (k : Nat) (A : Option Addr) (d : Nat) (z : Seg) (o : List (List Nat)), s.size + 1 - i = g ∧ Fr 58 [(0, .string s), (3, .slice A o.length d), (4, .int .i64 ((k : Nat) : Int)), (5, .int .i64 ((i : Nat) : Int))] a ∧ St w0 [] [z] w ∧ (i ≤ s.size + 1) ∧ (OwnS z A o.length d (strs o) 9 1) ∧ (WJ (bys s) i k o)) (s.size + 1 - 0) ?_ ?_))
 ·exact ⟨0, 0, none, 0, [], [], Y, J.sub ⟨Y, Y, Y, Y, trivial⟩, G.sel [0] Y Y, by omega, OwnS.nil 9 1, WJ_0 _⟩
 rintro KL1 g a w ⟨i, k, A, d, z, o, hg1, J, G, hi, hO, hJ⟩ hKL1
 have hJ2 := hJ.1
 refine wp_seq_k fun K6 hK6=> wp_seq_k fun K7 hK7=> wp_region_lit <| mv J Y Y fun a J=> mv J Y Y fun a J=> sw J Y Y Y (R.lenS Tryz.underlying9 (J.ev Y)) fun a J=> sw J Y Y Y (R.leq (J.ev Y) (J.ev Y)) fun a J=> s0 <| then_n (hK7 _ _ <| cD J Y (fun c1=> ?_) (fun c1=> ?_))
 ·have hJ1 := WJ_k hJ hlen (by omega)
  refine wp_skip <| then_n (hK6 _ _ <| wp_seq_k fun K8 hK8=> ?_)
  have hK8' : ∀ a w, (∃ (k3 : Nat) (A3 : Option Addr) (d3 : Nat) (z3 : Seg) (o3 : List (List Nat)), Fr 58 [(0, .string s), (3, .slice A3 o3.length d3), (4, .int .i64 ((k3 : Nat) : Int)), (5, .int .i64 ((i : Nat) : Int))] a ∧ St w0 [] [z3] w ∧ (OwnS z3 A3 o3.length d3 (strs o3) 9 1) ∧ (WJ (bys s) (i + 1) k3 o3)) → K8 a w := by
   rintro a w ⟨k3, A3, d3, z3, o3, J, G, hO, hJ⟩
   refine hK8 _ _ ?_
   refine wp_region_lit <| mv J Y Y fun a J=> aI J Y Y Y (by omega) fun a J=> av J Y Y fun a J=> s0 <| then_n (hKL1 (s.size + 1 - (i + 1)) _ _ ?_ ?_)
   ·omega
   exact ⟨i + 1, k3, A3, d3, z3, o3, Y, J.sub ⟨Y, Y, Y, (congrArg (fun z => some (Value.int .i64 z)) (by omega)), trivial⟩, G.sel [0] Y Y, by omega, hO, hJ⟩
  refine wp_block <| wp_seq_k fun K9 hK9=> ?_
  have hK9' : ∀ a w, (Fr 58 [(0, .string s), (3, .slice A o.length d), (4, .int .i64 ((k : Nat) : Int)), (5, .int .i64 ((i : Nat) : Int)), (33, .bool (decide (i = s.size ∨ ((bys s).getD i 0) = 32 ∨ ((bys s).getD i 0) = 9 ∨ ((bys s).getD i 0) = 35)))] a ∧ St w0 [] [z] w) → K9 a w := by
   rintro a w ⟨J, G⟩
   refine hK9 _ _ ?_
   refine cD J Y (fun c2=> ?_) (fun c2=> ?_)
   ·refine wp_seq_k fun K10 hK10=> ?_
    have hK10' : ∀ a w, (∃ (A2 : Option Addr) (d2 : Nat) (z2 : Seg) (o2 : List (List Nat)), Fr 58 [(0, .string s), (3, .slice A2 o2.length d2), (4, .int .i64 ((k : Nat) : Int)), (5, .int .i64 ((i : Nat) : Int))] a ∧ St w0 [] [z2] w ∧ (OwnS z2 A2 o2.length d2 (strs o2) 9 1) ∧ (o2 = o ++ clo (curN (bys s) k i))) → K10 a w := by
     rintro a w ⟨A2, d2, z2, o2, J, G, hO2, ho2⟩
     refine hK10 _ _ ?_
     refine wp_seq_k fun K11 hK11=> wp_region_lit <| mv J Y Y fun a J=> aI J Y Y Y (by omega) fun a J=> av J Y Y fun a J=> s0 <| then_n (hK11 _ _ <| wp_seq_k fun K12 hK12=> ?_)
     have hK12' : ∀ a w, (Fr 58 [(0, .string s), (3, .slice A2 o2.length d2), (4, .int .i64 (((i + 1) : Nat) : Int)), (5, .int .i64 ((i : Nat) : Int)), (55, .bool (decide (i < s.size ∧ ((bys s).getD i 0) = 35)))] a ∧ St w0 [] [z2] w) → K12 a w := by
      rintro a w ⟨J, G⟩
      refine hK12 _ _ ?_
      refine cD J Y (fun c4=> ?_) (fun c4=> ?_)
      ·have hE2 := WJ_stop hJ hlen (by omega) c4.2
       refine wp_seq_k fun K13 hK13=> wp_region_lit <| mv J Y Y fun a J=> av J Y Y fun a J=> s0 <| then_n (hK13 _ _ <| wp_ret (blk_r (then_r (then_r (blk_r (then_r (hR _ _ _ _ _ J (run_results Tryz.results54 (.t J Y (.nil))) ?_)))))))
       exact ⟨_, z2, Y, ⟨A2, d2, by rw [hE2, ← ho2]; rfl, by rw [hE2, ← ho2]; exact hO2⟩, G.one .h⟩
      refine wp_skip <| blk_n ?_
      exact then_n (hK8' _ _ ⟨i + 1, A2, d2, z2, o2, J.sub ⟨Y, Y, Y, Y, trivial⟩, G.sel [0] Y Y, hO2, (by rw [ho2]; exact WJ_sep hJ hlen (by omega) (by omega))⟩)
     refine wp_region_lit <| mv J Y Y fun a J=> mv J Y Y fun a J=> sw J Y Y Y (R.lenS Tryz.underlying9 (J.ev Y)) fun a J=> lS J Y Y Y fun a J=> mv J Y Y fun a J=> J.splitD (t := 50) Y (fun h50 J=> ?_) (fun h50 J=> ?_)
     ·refine my J Y Y Y Y fun a J=> my J Y Y Y Y fun a J=> sv' J (wy J Y Y Y) Y Y (R.as (u := .int .u8 ((((bys s).getD i 0) : Nat) : Int)) (R.chr Tryz.underlying9 (J.ev Y) (J.ev Y) (by omega) (by omega)) (Y)) fun a J=> sv' J (wy J Y Y Y) Y Y (R.eql (J.ev Y) (J.ev Y)) fun a J=> pT J Y Y Y fun a J=> s0 ?_
      exact then_n (hK12' _ _ ⟨J.sub ⟨Y, Y, (congrArg (fun z => some (Value.int .i64 z)) (by omega)), Y, (congrArg (fun z => some (Value.bool z)) (by first | exact (decide_eq_true (by omega)).symm | exact (decide_eq_false (by omega)).symm | exact decide_eq_decide.2 (by omega))), trivial⟩, G.sel [0] Y Y⟩)
     refine kz J Y Y Y Y Y Y fun a J=> kz J Y Y Y Y Y Y fun a J=> kz J Y Y Y Y Y Y fun a J=> kz J Y Y Y Y Y Y fun a J=> pF J Y Y Y fun a J=> s0 ?_
     exact then_n (hK12' _ _ ⟨J.sub ⟨Y, Y, (congrArg (fun z => some (Value.int .i64 z)) (by omega)), Y, (congrArg (fun z => some (Value.bool z)) (by first | exact (decide_eq_true (by omega)).symm | exact (decide_eq_false (by omega)).symm | exact decide_eq_decide.2 (by omega))), trivial⟩, G.sel [0] Y Y⟩)
    refine wp_seq_k fun K14 hK14=> wp_region_lit <| mv J Y Y fun a J=> mv J Y Y fun a J=> sw J Y Y Y (R.gtr (J.ev Y) (J.ev Y)) fun a J=> s0 <| then_n (hK14 _ _ <| cD J Y (fun c3=> ?_) (fun c3=> ?_))
    ·refine wp_region_lit <| mv J Y Y fun a J=> mv J Y Y fun a J=> mv J Y Y fun a J=> mv J Y Y fun a J=> sw J Y Y Y (R.as (u := .string (bstr (curN (bys s) k i))) (R.strMid Tryz.underlying9 (J.ev Y) (J.ev Y) (J.ev Y) (by omega) (by omega) (by omega)) (Y)) fun a J=> so (wn Y) (O.buildSlice (l := [_]) Y Y J Tryz.underlying108 inf9 Y Y (J.evp Y) (by decide) Y G fun b42 a w J G=> ?_)
     refine so (wn Y) (O.append Y Y J Tryz.underlying108 inf9 Y Y (by decide) (J.ev Y) (J.ev Y) G hO (fun _=> (.t .h)) (Rd.own0 G .h) (Y) (by simp [Value.oneCell']) (by unfold maxLen; omega) (by omega) fun A43 c43 s43 a w hO43 J G=> ?_)
     refine av J Y Y fun a J=> s0 ?_
     exact then_n (hK10' _ _ ⟨A43, c43, s43, o ++ clo (curN (bys s) k i), J.sub ⟨Y, (by rw [clo_cur hlen (by omega), if_pos (by omega), List.length_append]; rfl), Y, Y, trivial⟩, G.sel [1] Y Y, (by rw [clo_cur hlen (by omega), if_pos (by omega), List.length_append, strs_snoc]; exact hO43), Y⟩)
    refine wp_skip ?_
    exact then_n (hK10' _ _ ⟨A, d, z, o ++ clo (curN (bys s) k i), J.sub ⟨Y, (by rw [clo_cur hlen (by omega), if_neg (by omega), List.append_nil]; rfl), Y, Y, trivial⟩, G.sel [0] Y Y, (by rw [clo_cur hlen (by omega), if_neg (by omega), List.append_nil]; exact hO), Y⟩)
   refine wp_skip <| blk_n ?_
   exact then_n (hK8' _ _ ⟨k, A, d, z, o, J.sub ⟨Y, Y, Y, Y, trivial⟩, G.sel [0] Y Y, hO, WJ_go hJ hlen (by omega) (by omega)⟩)
  refine wp_region_lit <| mv J Y Y fun a J=> mv J Y Y fun a J=> sw J Y Y Y (R.lenS Tryz.underlying9 (J.ev Y)) fun a J=> eL J Y Y Y fun a J=> mv J Y Y fun a J=> J.splitD (t := 16) Y (fun h16 J=> ?_) (fun h16 J=> ?_)
  ·refine kz J Y Y Y Y Y Y fun a J=> kz J Y Y Y Y Y Y fun a J=> kz J Y Y Y Y Y Y fun a J=> kz J Y Y Y Y Y Y fun a J=> pT J Y Y Y fun a J=> mv J Y Y fun a J=> kz J Y Y Y Y Y Y fun a J=> kz J Y Y Y Y Y Y fun a J=> kz J Y Y Y Y Y Y fun a J=> kz J Y Y Y Y Y Y fun a J=> pT J Y Y Y fun a J=> mv J Y Y fun a J=> kz J Y Y Y Y Y Y fun a J=> kz J Y Y Y Y Y Y fun a J=> kz J Y Y Y Y Y Y fun a J=> kz J Y Y Y Y Y Y fun a J=> pT J Y Y Y fun a J=> s0 ?_
   exact then_n (hK9' _ _ ⟨J.sub ⟨Y, Y, Y, Y, (congrArg (fun z => some (Value.bool z)) (by first | exact (decide_eq_true (by omega)).symm | exact (decide_eq_false (by omega)).symm | exact decide_eq_decide.2 (by omega))), trivial⟩, G.sel [0] Y Y⟩)
  refine my J Y Y Y Y fun a J=> my J Y Y Y Y fun a J=> sv' J (wy J Y Y Y) Y Y (R.as (u := .int .u8 ((((bys s).getD i 0) : Nat) : Int)) (R.chr Tryz.underlying9 (J.ev Y) (J.ev Y) (by omega) (by omega)) (Y)) fun a J=> sv' J (wy J Y Y Y) Y Y (R.eql (J.ev Y) (J.ev Y)) fun a J=> pF J Y Y Y fun a J=> mv J Y Y fun a J=> J.splitD (t := 22) Y (fun h22 J=> ?_) (fun h22 J=> ?_)
  ·refine kz J Y Y Y Y Y Y fun a J=> kz J Y Y Y Y Y Y fun a J=> kz J Y Y Y Y Y Y fun a J=> kz J Y Y Y Y Y Y fun a J=> pT J Y Y Y fun a J=> mv J Y Y fun a J=> kz J Y Y Y Y Y Y fun a J=> kz J Y Y Y Y Y Y fun a J=> kz J Y Y Y Y Y Y fun a J=> kz J Y Y Y Y Y Y fun a J=> pT J Y Y Y fun a J=> s0 ?_
   exact then_n (hK9' _ _ ⟨J.sub ⟨Y, Y, Y, Y, (congrArg (fun z => some (Value.bool z)) (by first | exact (decide_eq_true (by omega)).symm | exact (decide_eq_false (by omega)).symm | exact decide_eq_decide.2 (by omega))), trivial⟩, G.sel [0] Y Y⟩)
  refine my J Y Y Y Y fun a J=> my J Y Y Y Y fun a J=> sv' J (wy J Y Y Y) Y Y (R.as (u := .int .u8 ((((bys s).getD i 0) : Nat) : Int)) (R.chr Tryz.underlying9 (J.ev Y) (J.ev Y) (by omega) (by omega)) (Y)) fun a J=> sv' J (wy J Y Y Y) Y Y (R.eql (J.ev Y) (J.ev Y)) fun a J=> pF J Y Y Y fun a J=> mv J Y Y fun a J=> J.splitD (t := 28) Y (fun h28 J=> ?_) (fun h28 J=> ?_)
  ·refine kz J Y Y Y Y Y Y fun a J=> kz J Y Y Y Y Y Y fun a J=> kz J Y Y Y Y Y Y fun a J=> kz J Y Y Y Y Y Y fun a J=> pT J Y Y Y fun a J=> s0 ?_
   exact then_n (hK9' _ _ ⟨J.sub ⟨Y, Y, Y, Y, (congrArg (fun z => some (Value.bool z)) (by first | exact (decide_eq_true (by omega)).symm | exact (decide_eq_false (by omega)).symm | exact decide_eq_decide.2 (by omega))), trivial⟩, G.sel [0] Y Y⟩)
  refine my J Y Y Y Y fun a J=> my J Y Y Y Y fun a J=> sv' J (wy J Y Y Y) Y Y (R.as (u := .int .u8 ((((bys s).getD i 0) : Nat) : Int)) (R.chr Tryz.underlying9 (J.ev Y) (J.ev Y) (by omega) (by omega)) (Y)) fun a J=> sv' J (wy J Y Y Y) Y Y (R.eql (J.ev Y) (J.ev Y)) fun a J=> pF J Y Y Y fun a J=> s0 ?_
  exact then_n (hK9' _ _ ⟨J.sub ⟨Y, Y, Y, Y, (congrArg (fun z => some (Value.bool z)) (by first | exact (decide_eq_true (by omega)).symm | exact (decide_eq_false (by omega)).symm | exact decide_eq_decide.2 (by omega))), trivial⟩, G.sel [0] Y Y⟩)
 have hE := WJ_end hJ hlen (by omega)
 refine wp_exit (then_x (then_x (blk_hit <| then_n (hK4 _ _ <| wp_seq_k fun K15 hK15=> wp_region_lit <| mv J Y Y fun a J=> av J Y Y fun a J=> s0 <| then_n (hK15 _ _ <| wp_ret (hR _ _ _ _ _ J (run_results Tryz.results54 (.t J Y (.nil))) ?_))))))
 exact ⟨_, z, Y, ⟨A, d, by rw [hE]; rfl, by rw [hE]; exact hO⟩, G.one .h⟩
end Go.Proofs.YtlapmbkfmbkdoaaGreatDoor
end
section
namespace Go.Proofs.YtlapmbkfmbkdoaaGreatDoor
open Go Go.Fw Go.RowKit
attribute [local irreducible] Go.Oper.wp Go.Code.wp Go.wpList Go.Fw.WL Go.Calls
def prsR (xs : List Nat) : Value := .tuple #[wv ((prs xs).getD 0), .bool (prs xs).isSome]
theorem sum_lt33' {x b : Nat} (hx : x < 256 ^ 32) (hb : b < 256 ^ 32) : x + b < 256 ^ 33 := by
  have : (256 : Nat) ^ 33 = 256 ^ 32 * 256 := by rw [← Nat.pow_succ]
  have h2 : 0 < (256 : Nat) ^ 32 := by decide
  omega
theorem small32 {b : Nat} (hb : b < 256) : b < 256 ^ 32 := Nat.lt_of_lt_of_le hb (by decide)
theorem mul64 {x : Nat} (hx : x < 256 ^ 32) : x * 10 < 256 ^ 64 := by
  have : (256 : Nat) ^ 64 = 256 ^ 32 * 256 ^ 32 := by rw [← Nat.pow_add]
  have h2 : 10 ≤ (256 : Nat) ^ 32 := by decide
  rw [this]
  exact Nat.lt_of_lt_of_le (Nat.mul_lt_mul_of_pos_right hx (by decide)) (Nat.mul_le_mul_left _ h2)
theorem named_l {xs : List Nat} (h : Byt xs) (w : World) : Ret Tryz.prog 104 [.string (bstr xs)] w [] (fun v q => v = .bool (okL xs) ∧ q = []) := by
  have := named_calls (bstr xs) w; rwa [bys_bstr h] at this
theorem labelled_l {xs : List Nat} (h : Byt xs) (w : World) : Ret Tryz.prog 102 [.string (bstr xs)] w [] (fun v q => v = .tuple #[.string (bstr (lblN xs).1), .bool (lblN xs).2] ∧ q = []) := by
  have := labelled_calls (bstr xs) w; rwa [bys_bstr h] at this
theorem rcodeOf_l {xs : List Nat} (h : Byt xs) (w : World) : Ret Tryz.prog 103 [.string (bstr xs)] w [] (fun v q => v = .int .i64 (if codeN xs < 28 then ((codeN xs : Nat) : Int) else -1) ∧ q = []) := by
  have := rcodeOf_calls (bstr xs) w; rwa [bys_bstr h] at this
set_option maxHeartbeats 1000000 in
theorem rread_calls (s : ByteArray) (w0 : World) : Ret Tryz.prog 105 [.string s] w0 [] (fun v q => v = prsR (bys s) ∧ q = []) := by
 refine fn_start Tryz.func105 Y Tryz.ntmps105 Y [(0, .string s)] ⟨Y, trivial⟩ ?_
 intro Q a hP J hR hN
 have G := St.start w0
 have hlen := length_bys s
 refine wp_seq_k fun K1 hK1=> wp_region_lit <| so (wn Y) (O.alloc Y Y J ze32 Y G fun b2 a w J G=> ?_)
 refine av J Y Y fun a J=> s0 <| then_n (hK1 _ _ <| wp_seq_k fun K2 hK2=> wp_seq_k fun K3 hK3=> ?_)
 have hK3' : ∀ a w, (Fr 66 [(0, .string s), (2, .pointer (some ⟨b2, 0, none⟩)), (25, .bool (decide (s.size < 1 ∨ 78 < s.size ∨ (1 < s.size ∧ ((bys s).getD 0 0) = 48))))] a ∧ St w0 [] [[(b2, Cel (wc 0) 32)]] w) → K3 a w := by
  rintro a w ⟨J, G⟩
  refine hK3 _ _ ?_
  refine cD J Y (fun hz=> ?_) (fun hz=> ?_)
  ·have hpn : prs (bys s) = none := bad_ref hlen (by omega)
   refine wp_seq_k fun K4 hK4=> wp_region_lit <| sw J Y Y Y (R.buildArr (l := [_, _, _, _]) Tryz.underlying32 ze32 sz30 (J.evp Y) Y) fun a J=> so (wn Y) (O.storeW sz32 (J.ev Y) (J.ev Y) (Y) Y (by simp [Value.oneCell']) G .h (Y) fun w G=> ?_)
   refine av J Y Y fun a J=> s0 <| then_n (hK4 _ _ <| wp_ret (then_r (hR _ _ _ _ _ J (run_results Tryz.results105 (.cw J Y agg32 G .h sz32 (Y) (.t J Y (.nil)))) ?_)))
   exact ⟨_, [], Y, ⟨by rw [prsR, hpn]; rfl, Y⟩, G.none⟩
  have hnz := hz
  refine wp_skip <| then_n (hK2 _ _ <| wp_seq_k fun K5 hK5=> wp_region_lit <| so (wn Y) (O.alloc Y Y J ze32 Y G fun b4 a w J G=> ?_))
  refine s0 <| then_n (hK5 _ _ <| wp_seq_k fun K6 hK6=> wp_seq_k fun K7 hK7=> wp_region_lit <| av J Y Y fun a J=> s0 <| then_n (hK7 _ _ <| wp_block <| wp_loop_N (fun g a w=> ∃ (i : Nat), s.size - i = g ∧ Fr 66 [(0, .string s), (2, .pointer (some ⟨b2, 0, none⟩)), (4, .pointer (some ⟨b4, 0, none⟩)), (5, .int .i64 ((i : Nat) : Int))] a ∧ St w0 [] [[(b4, Cel (wc (num ((bys s).take i))) 32)], [(b2, Cel (wc 0) 32)]] w ∧ (i ≤ s.size) ∧ (allD ((bys s).take i) = true) ∧ (num ((bys s).take i) < 115792089237316195423570985008687907853269984665640564039457584007913129639936)) (s.size - 0) ?_ ?_))
  ·exact ⟨0, Y, J.sub ⟨Y, Y, Y, Y, trivial⟩, G.sel [0, 1] Y (by rw [List.take_zero]; rfl), by omega, Y, by show num [] < _; decide⟩
  rintro KL1 g a w ⟨i, hg1, J, G, hi, hal, hnm⟩ hKL1
  refine wp_seq_k fun K8 hK8=> wp_seq_k fun K9 hK9=> wp_region_lit <| mv J Y Y fun a J=> mv J Y Y fun a J=> sw J Y Y Y (R.lenS Tryz.underlying9 (J.ev Y)) fun a J=> lS J Y Y Y fun a J=> s0 <| then_n (hK9 _ _ <| cD J Y (fun c2=> ?_) (fun c2=> ?_))
  ·refine wp_skip <| then_n (hK8 _ _ <| wp_seq_k fun K10 hK10=> wp_block <| wp_seq_k fun K11 hK11=> wp_seq_k fun K12 hK12=> wp_region_lit <| mv J Y Y fun a J=> mv J Y Y fun a J=> sw J Y Y Y (R.as (u := .int .u8 ((((bys s).getD i 0) : Nat) : Int)) (R.chr Tryz.underlying9 (J.ev Y) (J.ev Y) (by omega) (by omega)) (Y)) fun a J=> so (wn Y) (O.call Y Y J ent132 (J.evs Y) G (digit_calls ((bys s).getD i 0) _) fun v s36 a w hR J G=> ?_))
   obtain ⟨rfl, rfl⟩ := hR
   refine sw J Y Y Y ((by first | exact R.notD (J.ev Y) | exact R.not (J.ev Y))) fun a J=> ?_
   refine s0 <| then_n (hK12 _ _ <| cD J Y (fun c3=> ?_) (fun c3=> ?_))
   ·have hpn := prs_badD (allD_bad (bys s) i (by omega) (by omega))
    refine wp_seq_k fun K13 hK13=> wp_region_lit <| sw J Y Y Y (R.buildArr (l := [_, _, _, _]) Tryz.underlying32 ze32 sz30 (J.evp Y) Y) fun a J=> so (wn Y) (O.storeW sz32 (J.ev Y) (J.ev Y) (Y) Y (by simp [Value.oneCell']) G (.t (.t .h)) (Y) fun w G=> ?_)
    refine av J Y Y fun a J=> s0 <| then_n (hK13 _ _ <| wp_ret (then_r (blk_r (then_r (then_r (blk_r (then_r (hR _ _ _ _ _ J (run_results Tryz.results105 (.cw J Y agg32 G (.t (.t .h)) sz32 (Y) (.t J Y (.nil)))) ?_))))))))
    exact ⟨_, [], Y, ⟨by rw [prsR, hpn]; rfl, Y⟩, G.none⟩
   have hnj := num_take (bys s) i (by omega)
   have hbb := byt_bys s
   have hb9 : 48 ≤ ((bys s).getD i 0) ∧ ((bys s).getD i 0) ≤ 57 := by omega
   have hn32 : num ((bys s).take i) < 256 ^ 32 := by rw [M256]; exact hnm
   refine wp_skip <| then_n (hK11 _ _ <| wp_seq_k fun K14 hK14=> wp_region_lit <| sw J Y Y Y (R.loadW agg32 (J.ev Y) G (.t .h) sz32 (Y)) fun a J=> so (wn Y) (O.call Y Y J ent61 (J.evs Y) G (dig_calls (num ((bys s).take i)) w) fun v s40 a w hR J G=> ?_))
   obtain ⟨b40, rfl, rfl⟩ := hR
   refine sw J Y Y Y (R.buildArr (l := [_, _, _, _]) Tryz.underlying32 ze32 sz30 (J.evp Y) Y) fun a J=> so (wn Y) (O.call Y Y J ent61 (J.evs Y) G (dig_calls 10 w) fun v s42 a w hR J G=> ?_)
   obtain ⟨b42, rfl, rfl⟩ := hR
   refine so (wn Y) (O.call Y Y J ent99 (J.evs Y) G (timesB_calls (some ⟨b40, 0, none⟩) (some ⟨b42, 0, none⟩) 32 32 (num ((bys s).take i)) 10 w (Rd.own0 G (.t .h)) (Rd.own0 G .h) hn32 (by decide)) fun v s43 a w hR J G=> ?_)
   obtain ⟨b43, rfl, rfl⟩ := hR
   refine av J Y Y fun a J=> s0 <| then_n (hK14 _ _ <| wp_seq_k fun K15 hK15=> wp_seq_k fun K16 hK16=> wp_region_lit <| mv J Y Y fun a J=> so (wn Y) (O.call Y Y J ent96 (J.evs Y) G (wholly_calls (some ⟨b43, 0, none⟩) 64 64 (num ((bys s).take i) * 10) w (Rd.own0 G .h) (by decide) (mul64 hn32)) fun v s45 a w hR J G=> ?_))
   obtain ⟨rfl, rfl⟩ := hR
   refine sw J Y Y Y ((by first | exact R.notD (J.ev Y) | exact R.not (J.ev Y))) fun a J=> ?_
   refine s0 <| then_n (hK16 _ _ <| cD J Y (fun c4=> ?_) (fun c4=> ?_))
   ·have hpn := prs_big (Nat.le_trans (by rw [M256] at c4; omega) (num_take_le (bys s) (i + 1)))
    refine wp_seq_k fun K17 hK17=> wp_region_lit <| sw J Y Y Y (R.buildArr (l := [_, _, _, _]) Tryz.underlying32 ze32 sz30 (J.evp Y) Y) fun a J=> so (wn Y) (O.storeW sz32 (J.ev Y) (J.ev Y) (Y) Y (by simp [Value.oneCell']) G (.t (.t (.t (.t (.t (.t .h)))))) (Y) fun w G=> ?_)
    refine av J Y Y fun a J=> s0 <| then_n (hK17 _ _ <| wp_ret (then_r (blk_r (then_r (then_r (blk_r (then_r (hR _ _ _ _ _ J (run_results Tryz.results105 (.cw J Y agg32 G (.t (.t (.t (.t (.t (.t .h)))))) sz32 (Y) (.t J Y (.nil)))) ?_))))))))
    exact ⟨_, [], Y, ⟨by rw [prsR, hpn]; rfl, Y⟩, G.none⟩
   have hfit : num ((bys s).take i) * 10 < 256 ^ 32 := Classical.not_not.1 c4
   refine wp_skip <| then_n (hK15 _ _ <| wp_seq_k fun K18 hK18=> wp_drawS G [(0, 0), (1, 0), (2, 0), (3, 0), (4, 0), (5, 0), (6, 0), (7, 2), (8, 2), (9, 2), (10, 0)] mix (by kernel_rfl) (hP.then.block.then.then.block.then) fun w G=> ?_)
   have hD := G
   refine dm J Y Y Y fun a J=> dv J Y Y Y Y (fun w=> R.as (u := .slice (some ⟨b43, 32, none⟩) 32 32) (R.sliceLo (p := 32) Tryz.underlying61 (J.ev Y) (J.ev Y) (by decide) sz3) (Y)) fun a J=> dm J Y Y Y fun a J=> dm J Y Y Y fun a J=> dv J Y Y Y Y (fun w=> R.as (u := .int .u8 ((((bys s).getD i 0) : Nat) : Int)) (R.chr Tryz.underlying9 (J.ev Y) (J.ev Y) (by omega) (by omega)) (Y)) fun a J=> dv J Y Y Y Y (fun w=> R.as (u := .int .u8 ((((bys s).getD i 0) - 48 : Nat) : Int)) (R.sub (k := .u8) (p := ((((bys s).getD i 0) : Nat) : Int)) (q := 48) (J.ev Y) (J.ev Y)) (congrArg (fun z : Int=> Value.int .u8 z) (by rw [IntKind.wrap_u8']; omega))) fun a J=> dv J Y Y Y Y (fun w=> R.as (u := .int .i64 ((((bys s).getD i 0) - 48 : Nat) : Int)) (R.convI Tryz.underlying5 Tryz.underlying3 (J.ev Y) (by omega)) (congrArg (Value.int .i64) (by omega))) fun a J=> dl Y (wn Y) (O.call Y Y J ent60 (J.evs Y) G (rcount_calls (((bys s).getD i 0) - 48) w (by omega)) fun v s55 a w hR J G=> ⟨fun hD=> G.tail, ?_⟩)
   obtain ⟨rfl, rfl⟩ := hR
   have hD := G.tail
   refine dl Y (wn Y) (O.call Y Y J ent61 (J.evs Y) G (dig_calls (((bys s).getD i 0) - 48) w) fun v s56 a w hR J G=> ⟨fun hD=> G.tail.tail, ?_⟩)
   obtain ⟨b56, rfl, rfl⟩ := hR
   have hD := G.tail.tail
   refine dl Y (wn Y) (O.call Y Y J ent95 (J.evs Y) G (plus_calls (some ⟨b43, 32, none⟩) (some ⟨b56, 0, none⟩) 32 32 (num ((bys s).take i) * 10) (((bys s).getD i 0) - 48) w (rd_tail (n := 32) (j := 32) (Rd.own0 G (.t (.t (.t .h))))) (Rd.own0 G .h) hfit (small32 (by omega))) fun v s57 a w hR J G=> ⟨fun hD=> G.tail.tail.tail, ?_⟩)
   obtain ⟨b57, rfl, rfl⟩ := hR
   have hD := G.tail.tail.tail
   refine da J Y Y Y fun a J=> d0 <| then_n (hK18 _ _ <| wp_seq_k fun K19 hK19=> wp_seq_k fun K20 hK20=> wp_region_lit <| mv J Y Y fun a J=> so (wn Y) (O.call Y Y J ent96 (J.evs Y) G (wholly_calls (some ⟨b57, 0, none⟩) 33 33 (num ((bys s).take i) * 10 + (((bys s).getD i 0) - 48)) w (Rd.own0 G .h) (by decide) (sum_lt33' hfit (small32 (by omega)))) fun v s59 a w hR J G=> ?_))
   obtain ⟨rfl, rfl⟩ := hR
   refine sw J Y Y Y ((by first | exact R.notD (J.ev Y) | exact R.not (J.ev Y))) fun a J=> ?_
   refine s0 <| then_n (hK20 _ _ <| cD J Y (fun c5=> ?_) (fun c5=> ?_))
   ·have hpn := prs_big (Nat.le_trans (by rw [M256] at c5; omega) (num_take_le (bys s) (i + 1)))
    refine wp_seq_k fun K21 hK21=> wp_region_lit <| sw J Y Y Y (R.buildArr (l := [_, _, _, _]) Tryz.underlying32 ze32 sz30 (J.evp Y) Y) fun a J=> so (wn Y) (O.storeW sz32 (J.ev Y) (J.ev Y) (Y) Y (by simp [Value.oneCell']) G (.t (.t (.t (.t (.t (.t (.t (.t (.t (.t .h)))))))))) (Y) fun w G=> ?_)
    refine av J Y Y fun a J=> s0 <| then_n (hK21 _ _ <| wp_ret (then_r (blk_r (then_r (then_r (blk_r (then_r (hR _ _ _ _ _ J (run_results Tryz.results105 (.cw J Y agg32 G (.t (.t (.t (.t (.t (.t (.t (.t (.t (.t .h)))))))))) sz32 (Y) (.t J Y (.nil)))) ?_))))))))
    exact ⟨_, [], Y, ⟨by rw [prsR, hpn]; rfl, Y⟩, G.none⟩
   have hfit2 : num ((bys s).take i) * 10 + (((bys s).getD i 0) - 48) < 256 ^ 32 := Classical.not_not.1 c5
   have hfit3 := hfit2; rw [M256] at hfit3
   refine wp_skip <| then_n (hK19 _ _ <| wp_region_lit <| mv J Y Y fun a J=> sw J Y Y Y (R.as (u := .slice (some ⟨b57, 1, none⟩) 32 32) (R.sliceLo (p := 1) Tryz.underlying61 (J.ev Y) (J.ev Y) (by decide) sz3) (Y)) fun a J=> so (wn Y) (O.call Y Y J ent29 (J.evs Y) G (number32 (some ⟨b57, 1, none⟩) 32 (num ((bys s).take i) * 10 + (((bys s).getD i 0) - 48)) w (rd_tail (n := 32) (j := 1) (Rd.own0 G (.t .h)))) fun v s64 a w hR J G=> ?_))
   obtain ⟨rfl, rfl⟩ := hR
   refine so (wn Y) (O.storeW sz32 (J.ev Y) (J.ev Y) (Y) Y (by simp [Value.oneCell']) G (.t (.t (.t (.t (.t (.t (.t (.t (.t (.t .h)))))))))) (Y) fun w G=> ?_)
   refine s0 <| blk_n <| then_n (hK10 _ _ <| wp_region_lit <| mv J Y Y fun a J=> aI J Y Y Y (by omega) fun a J=> av J Y Y fun a J=> s0 <| then_n (hKL1 (s.size - (i + 1)) _ _ ?_ ?_))
   ·omega
   exact ⟨i + 1, Y, J.sub ⟨Y, Y, Y, (congrArg (fun z => some (Value.int .i64 z)) (by omega)), trivial⟩, G.sel [10, 11] Y (by rw [hnj, Nat.mod_eq_of_lt hfit2]; rfl), by omega, allD_take _ i (by omega) hal (by omega), by omega⟩
  obtain rfl : i = s.size := by omega
  have htk : (bys s).take s.size = bys s := by rw [← hlen, List.take_length]
  rw [htk] at G hal hnm
  have hpn := prs_good (by omega) hal hnm
  refine wp_exit (then_x (then_x (blk_hit <| then_n (hK6 _ _ <| wp_seq_k fun K22 hK22=> wp_region_lit <| sw J Y Y Y (R.loadW agg32 (J.ev Y) G .h sz32 (Y)) fun a J=> so (wn Y) (O.storeW sz32 (J.ev Y) (J.ev Y) (Y) Y (by simp [Value.oneCell']) G (.t .h) (Y) fun w G=> ?_)))))
  refine av J Y Y fun a J=> s0 <| then_n (hK22 _ _ <| wp_ret (hR _ _ _ _ _ J (run_results Tryz.results105 (.cw J Y agg32 G (.t .h) sz32 (Y) (.t J Y (.nil)))) ?_))
  exact ⟨_, [], Y, ⟨by rw [prsR, hpn]; rfl, Y⟩, G.none⟩
 refine wp_region_lit <| mv J Y Y fun a J=> sw J Y Y Y (R.lenS Tryz.underlying9 (J.ev Y)) fun a J=> lS J Y Y Y fun a J=> mv J Y Y fun a J=> J.splitD (t := 11) Y (fun h11 J=> ?_) (fun h11 J=> ?_)
 ·refine kz J Y Y Y Y Y Y fun a J=> kz J Y Y Y Y Y Y fun a J=> kz J Y Y Y Y Y Y fun a J=> pT J Y Y Y fun a J=> mv J Y Y fun a J=> kz J Y Y Y Y Y Y fun a J=> kz J Y Y Y Y Y Y fun a J=> kz J Y Y Y Y Y Y fun a J=> kz J Y Y Y Y Y Y fun a J=> ku J Y Y Y Y Y fun a J=> ku J Y Y Y Y Y fun a J=> ku J Y Y Y Y Y fun a J=> kz J Y Y Y Y Y Y fun a J=> pT J Y Y Y fun a J=> s0 ?_
  exact then_n (hK3' _ _ ⟨J.sub ⟨Y, Y, (congrArg (fun z => some (Value.bool z)) (by first | exact (decide_eq_true (by omega)).symm | exact (decide_eq_false (by omega)).symm | exact decide_eq_decide.2 (by omega))), trivial⟩, G.sel [0] Y Y⟩)
 refine my J Y Y Y Y fun a J=> sv' J (wy J Y Y Y) Y Y (R.lenS Tryz.underlying9 (J.ev Y)) fun a J=> sv' J (wy J Y Y Y) Y Y (R.gtr (J.ev Y) (J.ev Y)) fun a J=> pF J Y Y Y fun a J=> mv J Y Y fun a J=> J.splitD (t := 16) Y (fun h16 J=> ?_) (fun h16 J=> ?_)
 ·refine kz J Y Y Y Y Y Y fun a J=> kz J Y Y Y Y Y Y fun a J=> kz J Y Y Y Y Y Y fun a J=> kz J Y Y Y Y Y Y fun a J=> ku J Y Y Y Y Y fun a J=> ku J Y Y Y Y Y fun a J=> ku J Y Y Y Y Y fun a J=> kz J Y Y Y Y Y Y fun a J=> pT J Y Y Y fun a J=> s0 ?_
  exact then_n (hK3' _ _ ⟨J.sub ⟨Y, Y, (congrArg (fun z => some (Value.bool z)) (by first | exact (decide_eq_true (by omega)).symm | exact (decide_eq_false (by omega)).symm | exact decide_eq_decide.2 (by omega))), trivial⟩, G.sel [0] Y Y⟩)
 refine my J Y Y Y Y fun a J=> sv' J (wy J Y Y Y) Y Y (R.lenS Tryz.underlying9 (J.ev Y)) fun a J=> sv' J (wy J Y Y Y) Y Y (R.gtr (J.ev Y) (J.ev Y)) fun a J=> my J Y Y Y Y fun a J=> J.splitD (t := 20) Y (fun h20 J=> ?_) (fun h20 J=> ?_)
 ·refine my J Y Y Y Y fun a J=> sv' J (wy J Y Y Y) Y Y (R.as (u := .int .u8 ((((bys s).getD 0 0) : Nat) : Int)) (R.chr Tryz.underlying9 (J.ev Y) (J.ev Y) (by omega) (by simp only [Int.toNat_zero]; omega)) (Y)) fun a J=> sv' J (wy J Y Y Y) Y Y (R.eql (p := (((bys s).getD 0 0 : Nat) : Int)) (q := 48) (J.ev Y) (J.ev Y)) fun a J=> sv' J (wy J Y Y Y) Y Y (R.pickT (J.ev Y) (J.ev Y)) fun a J=> pF J Y Y Y fun a J=> s0 ?_
  exact then_n (hK3' _ _ ⟨J.sub ⟨Y, Y, (congrArg (fun z => some (Value.bool z)) (by first | exact (decide_eq_true (by omega)).symm | exact (decide_eq_false (by omega)).symm | exact decide_eq_decide.2 (by omega))), trivial⟩, G.sel [0] Y Y⟩)
 refine kz J Y Y Y Y Y Y fun a J=> kz J Y Y Y Y Y Y fun a J=> kz J Y Y Y Y Y Y fun a J=> sv' J (wy J Y Y Y) Y Y (R.pickF (J.ev Y) (J.ev Y)) fun a J=> pF J Y Y Y fun a J=> s0 ?_
 exact then_n (hK3' _ _ ⟨J.sub ⟨Y, Y, (congrArg (fun z => some (Value.bool z)) (by first | exact (decide_eq_true (by omega)).symm | exact (decide_eq_false (by omega)).symm | exact decide_eq_decide.2 (by omega))), trivial⟩, G.sel [0] Y Y⟩)
theorem rread_l {xs : List Nat} (h : Byt xs) (w : World) : Ret Tryz.prog 105 [.string (bstr xs)] w [] (fun v q => v = .tuple #[wv ((prs xs).getD 0), .bool (prs xs).isSome] ∧ q = []) := by
  have := rread_calls (bstr xs) w; rwa [bys_bstr h] at this
end Go.Proofs.YtlapmbkfmbkdoaaGreatDoor
end
