/- The run of a program and its host, as they lie in memory. No condition beyond each lemma's own. -/
import Derived.Test.YtlapmbkfmbkdoaaDg
namespace Go.Fw
open Go.RowKit Go.Proofs.Ytlapmbkfmbkdoaa
/-- what stays while a program runs: where it lies, the call, the host's replies and what it runs by itself -/
structure Fx where
  rb : Nat
  hb : Nat
  cA : Option Addr
  cc : Nat
  code : List Nat
  aA : Option Addr
  ac : Nat
  cl : Cl
  qA : Option Addr
  qc : Nat
  reps : List (Nat × Int)
  iA : Option Addr
  ic : Nat
  inner : List Nat
/-- what turns -/
structure Vr where
  left : Nat
  p : Nat
  next : Nat
  ended : Bool
  value : Nat
def adc (f : Nat → Nat) : List Value := [.int .u8 ((f 0 : Nat) : Int), .int .u8 ((f 1 : Nat) : Int), .int .u8 ((f 2 : Nat) : Int), .int .u8 ((f 3 : Nat) : Int), .int .u8 ((f 4 : Nat) : Int), .int .u8 ((f 5 : Nat) : Int), .int .u8 ((f 6 : Nat) : Int), .int .u8 ((f 7 : Nat) : Int), .int .u8 ((f 8 : Nat) : Int), .int .u8 ((f 9 : Nat) : Int), .int .u8 ((f 10 : Nat) : Int), .int .u8 ((f 11 : Nat) : Int), .int .u8 ((f 12 : Nat) : Int), .int .u8 ((f 13 : Nat) : Int), .int .u8 ((f 14 : Nat) : Int), .int .u8 ((f 15 : Nat) : Int), .int .u8 ((f 16 : Nat) : Int), .int .u8 ((f 17 : Nat) : Int), .int .u8 ((f 18 : Nat) : Int), .int .u8 ((f 19 : Nat) : Int)]
def callc (F : Fx) : List Value := [.int .u8 ((F.cl.self 0 : Nat) : Int), .int .u8 ((F.cl.self 1 : Nat) : Int), .int .u8 ((F.cl.self 2 : Nat) : Int), .int .u8 ((F.cl.self 3 : Nat) : Int), .int .u8 ((F.cl.self 4 : Nat) : Int), .int .u8 ((F.cl.self 5 : Nat) : Int), .int .u8 ((F.cl.self 6 : Nat) : Int), .int .u8 ((F.cl.self 7 : Nat) : Int), .int .u8 ((F.cl.self 8 : Nat) : Int), .int .u8 ((F.cl.self 9 : Nat) : Int), .int .u8 ((F.cl.self 10 : Nat) : Int), .int .u8 ((F.cl.self 11 : Nat) : Int), .int .u8 ((F.cl.self 12 : Nat) : Int), .int .u8 ((F.cl.self 13 : Nat) : Int), .int .u8 ((F.cl.self 14 : Nat) : Int), .int .u8 ((F.cl.self 15 : Nat) : Int), .int .u8 ((F.cl.self 16 : Nat) : Int), .int .u8 ((F.cl.self 17 : Nat) : Int), .int .u8 ((F.cl.self 18 : Nat) : Int), .int .u8 ((F.cl.self 19 : Nat) : Int), .int .u8 ((F.cl.caller 0 : Nat) : Int), .int .u8 ((F.cl.caller 1 : Nat) : Int), .int .u8 ((F.cl.caller 2 : Nat) : Int), .int .u8 ((F.cl.caller 3 : Nat) : Int), .int .u8 ((F.cl.caller 4 : Nat) : Int), .int .u8 ((F.cl.caller 5 : Nat) : Int), .int .u8 ((F.cl.caller 6 : Nat) : Int), .int .u8 ((F.cl.caller 7 : Nat) : Int), .int .u8 ((F.cl.caller 8 : Nat) : Int), .int .u8 ((F.cl.caller 9 : Nat) : Int), .int .u8 ((F.cl.caller 10 : Nat) : Int), .int .u8 ((F.cl.caller 11 : Nat) : Int), .int .u8 ((F.cl.caller 12 : Nat) : Int), .int .u8 ((F.cl.caller 13 : Nat) : Int), .int .u8 ((F.cl.caller 14 : Nat) : Int), .int .u8 ((F.cl.caller 15 : Nat) : Int), .int .u8 ((F.cl.caller 16 : Nat) : Int), .int .u8 ((F.cl.caller 17 : Nat) : Int), .int .u8 ((F.cl.caller 18 : Nat) : Int), .int .u8 ((F.cl.caller 19 : Nat) : Int), .int .i64 F.cl.token, .int .u64 ((dg F.cl.amount 0 : Nat) : Int), .int .u64 ((dg F.cl.amount 1 : Nat) : Int), .int .u64 ((dg F.cl.amount 2 : Nat) : Int), .int .u64 ((dg F.cl.amount 3 : Nat) : Int), .slice F.aA F.cl.args.length F.ac, .int .i64 F.cl.time, .int .i64 F.cl.gas]
def hostv (F : Fx) : Value := .iface 53 (.pointer (some ⟨F.hb, 0, none⟩))
def rcells (F : Fx) (sv : Value) (V : Vr) : List Value := [.slice F.cA F.code.length F.cc, .int .u8 ((F.cl.self 0 : Nat) : Int), .int .u8 ((F.cl.self 1 : Nat) : Int), .int .u8 ((F.cl.self 2 : Nat) : Int), .int .u8 ((F.cl.self 3 : Nat) : Int), .int .u8 ((F.cl.self 4 : Nat) : Int), .int .u8 ((F.cl.self 5 : Nat) : Int), .int .u8 ((F.cl.self 6 : Nat) : Int), .int .u8 ((F.cl.self 7 : Nat) : Int), .int .u8 ((F.cl.self 8 : Nat) : Int), .int .u8 ((F.cl.self 9 : Nat) : Int), .int .u8 ((F.cl.self 10 : Nat) : Int), .int .u8 ((F.cl.self 11 : Nat) : Int), .int .u8 ((F.cl.self 12 : Nat) : Int), .int .u8 ((F.cl.self 13 : Nat) : Int), .int .u8 ((F.cl.self 14 : Nat) : Int), .int .u8 ((F.cl.self 15 : Nat) : Int), .int .u8 ((F.cl.self 16 : Nat) : Int), .int .u8 ((F.cl.self 17 : Nat) : Int), .int .u8 ((F.cl.self 18 : Nat) : Int), .int .u8 ((F.cl.self 19 : Nat) : Int), .int .u8 ((F.cl.caller 0 : Nat) : Int), .int .u8 ((F.cl.caller 1 : Nat) : Int), .int .u8 ((F.cl.caller 2 : Nat) : Int), .int .u8 ((F.cl.caller 3 : Nat) : Int), .int .u8 ((F.cl.caller 4 : Nat) : Int), .int .u8 ((F.cl.caller 5 : Nat) : Int), .int .u8 ((F.cl.caller 6 : Nat) : Int), .int .u8 ((F.cl.caller 7 : Nat) : Int), .int .u8 ((F.cl.caller 8 : Nat) : Int), .int .u8 ((F.cl.caller 9 : Nat) : Int), .int .u8 ((F.cl.caller 10 : Nat) : Int), .int .u8 ((F.cl.caller 11 : Nat) : Int), .int .u8 ((F.cl.caller 12 : Nat) : Int), .int .u8 ((F.cl.caller 13 : Nat) : Int), .int .u8 ((F.cl.caller 14 : Nat) : Int), .int .u8 ((F.cl.caller 15 : Nat) : Int), .int .u8 ((F.cl.caller 16 : Nat) : Int), .int .u8 ((F.cl.caller 17 : Nat) : Int), .int .u8 ((F.cl.caller 18 : Nat) : Int), .int .u8 ((F.cl.caller 19 : Nat) : Int), .int .i64 F.cl.token, .int .u64 ((dg F.cl.amount 0 : Nat) : Int), .int .u64 ((dg F.cl.amount 1 : Nat) : Int), .int .u64 ((dg F.cl.amount 2 : Nat) : Int), .int .u64 ((dg F.cl.amount 3 : Nat) : Int), .slice F.aA F.cl.args.length F.ac, .int .i64 F.cl.time, .int .i64 F.cl.gas, .iface 53 (.pointer (some ⟨F.hb, 0, none⟩)), sv, .int .i64 ((V.left : Nat) : Int), .int .i64 ((V.p : Nat) : Int), .int .i64 ((V.next : Nat) : Int), .bool V.ended, .int .u64 ((dg V.value 0 : Nat) : Int), .int .u64 ((dg V.value 1 : Nat) : Int), .int .u64 ((dg V.value 2 : Nat) : Int), .int .u64 ((dg V.value 3 : Nat) : Int)]
def RunS (F : Fx) (V : Vr) (stk : List Nat) (s : Seg) : Prop := ∃ A c sg, s = (F.rb, Cel (rcells F (.slice A stk.length c) V) 81) :: sg ∧ OwnS sg A stk.length c (stk.flatMap wc) 31 4
/-- bytes of an address -/
def adF (n : Nat) : Nat → Nat := fun i => n / 256 ^ (19 - i) % 256
def repc (r : Nat × Int) : List Value := wc r.1 ++ [.int .i64 r.2]
def askc (q : Ask) : List Value := [.int .i64 ((q.kind : Nat) : Int), .int .u64 ((dg q.a 0 : Nat) : Int), .int .u64 ((dg q.a 1 : Nat) : Int), .int .u64 ((dg q.a 2 : Nat) : Int), .int .u64 ((dg q.a 3 : Nat) : Int), .int .u64 ((dg q.b 0 : Nat) : Int), .int .u64 ((dg q.b 1 : Nat) : Int), .int .u64 ((dg q.b 2 : Nat) : Int), .int .u64 ((dg q.b 3 : Nat) : Int), .int .i64 ((q.token : Nat) : Int), .int .u8 ((adF q.who 0 : Nat) : Int), .int .u8 ((adF q.who 1 : Nat) : Int), .int .u8 ((adF q.who 2 : Nat) : Int), .int .u8 ((adF q.who 3 : Nat) : Int), .int .u8 ((adF q.who 4 : Nat) : Int), .int .u8 ((adF q.who 5 : Nat) : Int), .int .u8 ((adF q.who 6 : Nat) : Int), .int .u8 ((adF q.who 7 : Nat) : Int), .int .u8 ((adF q.who 8 : Nat) : Int), .int .u8 ((adF q.who 9 : Nat) : Int), .int .u8 ((adF q.who 10 : Nat) : Int), .int .u8 ((adF q.who 11 : Nat) : Int), .int .u8 ((adF q.who 12 : Nat) : Int), .int .u8 ((adF q.who 13 : Nat) : Int), .int .u8 ((adF q.who 14 : Nat) : Int), .int .u8 ((adF q.who 15 : Nat) : Int), .int .u8 ((adF q.who 16 : Nat) : Int), .int .u8 ((adF q.who 17 : Nat) : Int), .int .u8 ((adF q.who 18 : Nat) : Int), .int .u8 ((adF q.who 19 : Nat) : Int)]
def hcells (F : Fx) (sv : Value) : List Value := [.slice F.qA F.reps.length F.qc, sv, .slice F.iA F.inner.length F.ic]
def HostS (F : Fx) (asks : List Ask) (s : Seg) : Prop := ∃ A c sg, s = (F.hb, Cel (hcells F (.slice A asks.length c)) 55) :: sg ∧ OwnS sg A asks.length c (asks.flatMap askc) 72 30
structure Fx.Ok (F : Fx) : Prop where
  len : F.code.length ≤ 1024
  byt : Byt F.code
  cap : F.code.length ≤ F.cc
  cap2 : F.cc ≤ 9223372036854775807
  chk : chkN F.code = true
  call : callOk F.cl = true
  argsW : AllW F.cl.args
  acap : F.cl.args.length ≤ F.ac
  acap2 : F.ac ≤ 9223372036854775807
  self : ∀ i, F.cl.self i < 256
  caller : ∀ i, F.cl.caller i < 256
  amount : F.cl.amount < 115792089237316195423570985008687907853269984665640564039457584007913129639936
  reps : ∀ r ∈ F.reps, r.1 < 115792089237316195423570985008687907853269984665640564039457584007913129639936
  qlen : F.reps.length ≤ 9223372036854775807
structure Fx.Rds (F : Fx) (w : World) (ks : List Nat) : Prop where
  code : RdK w ks F.cA (byts F.code)
  args : RdK w ks F.aA (F.cl.args.flatMap wc)
  reps : RdK w ks F.qA (F.reps.flatMap repc)
  inner : RdK w ks F.iA (byts F.inner)
theorem Fx.Rds.down {F : Fx} {w0 w : World} {ks : List Nat} {bs : List Seg} {s : Seg} (h : F.Rds w0 ks) (hS : St w0 ks bs w) (hs : HasS bs s) : F.Rds w (s.map (·.1)) :=
  ⟨h.code.down hS hs, h.args.down hS hs, h.reps.down hS hs, h.inner.down hS hs⟩
section
variable {w0 w : World} {ks : List Nat} {bs : List Seg} {F : Fx} {V : Vr} {stk : List Nat} {s sg : Seg} {A : Option Addr} {c n : Nat}
/-- the run's parts laid together -/
theorem RunS.close (hS : St w0 ks [[(F.rb, Cel (rcells F (.slice A n c) V) 81)], sg] w) (hn : n = stk.length) (hO : OwnS sg A n c (stk.flatMap wc) 31 4) : ∃ s', RunS F V stk s' ∧ St w0 ks [s'] w := by
  subst hn
  exact ⟨_, ⟨A, c, sg, rfl, hO⟩, hS.flat (by simp)⟩
end
end Go.Fw
