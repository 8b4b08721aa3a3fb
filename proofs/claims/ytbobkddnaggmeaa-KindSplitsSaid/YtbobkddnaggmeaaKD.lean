/- A part of the proof: a logic for programs of this kind, proved sound over the model; contracts of functions; plain laws. -/
import Derived.Test.YtbobkddnaggmeaaGE
import Derived.Test.YtbobkddnaggmeaaProg
import Derived.KernelRfl
set_option linter.all false
open Go Go.Proofs
namespace GoL
set_option linter.unusedVariables false
set_option linter.unusedSimpArgs false
structure KT where
  m : Int
  a : Int
  deriving DecidableEq
def made (m a : Int) : KT := ⟨bits .and .i64 m 511, if (bits .and .i64 m 511 != 16) then (if (bits .and .i64 m 511 != 256) then -1 else (if decide (a < -1) then -1 else a)) else (if decide (a < -1) then -1 else a)⟩
def norm (m a : Int) : KT := ⟨bits .and .i64 m 511, if (bits .and .i64 m 511 != 16) then (if (bits .and .i64 m 511 != 256) then -1 else (if a < -1 then -1 else a)) else (if a < -1 then -1 else a)⟩
def join (m a n b : Int) : KT := if ((made m a).m == (made 0 (-1)).m && (made m a).a == (made 0 (-1)).a) then made 0 (-1) else
  if ((made n b).m == (made 0 (-1)).m && (made n b).a == (made 0 (-1)).a) then made 0 (-1) else
  made (bits .or .i64 (made m a).m (made n b).m) (if ((made m a).a == (made n b).a) then (made m a).a else -1)
def under (m a n b : Int) : Bool := if ((made n b).m == 0) then true else if ((made m a).m != 0) then (if (bits .andNot .i64 (made m a).m (made n b).m == 0) then (if ((made n b).a == -1) then true else ((made n b).a == (made m a).a)) else false) else false
def meet (m a x : Int) : KT := made (bits .and .i64 (made m a).m x) (made m a).a
def wout (m a x : Int) : KT := meet m a (bits .xor .i64 (-1) x)
def plain (m a : Int) : Bool := if ((made m a).m != 0) then (bits .andNot .i64 (made m a).m 127 == 0) else false
def awakeV : Bool := if ((join 16 2 16 3).m == 16) then ((join 16 2 16 3).a == -1) else false
def place (x n : Int) : Int := if decide (x.tmod n < 0) then IntKind.i64.wrap (x.tmod n + n) else x.tmod n
def ofK (kd n len : Int) : KT := if (kd == 5) then made 16 len else if (kd == 9) then made 256 n else if decide (kd < 1) then made 0 (-1) else if decide (kd > 9) then made 0 (-1) else made (IntKind.i64.wrap (1 * 2 ^ (min (IntKind.i64.wrap (kd - 1)).toNat 64))) (-1)
def has (m a kd n len : Int) : Bool := if ((made m a).m != 0) then (if ((ofK kd n len).m != 0) then under (ofK kd n len).m (ofK kd n len).a m a else false) else false
def kV (k : KT) : V := .agg [.int .i64 k.m, .int .i64 k.a]
def b20 : List V → (V → Prop) → Prop
  | [.int .i64 m, .int .i64 a], k => k (.agg [.int .i64 (made m a).m, .int .i64 (made m a).a])
  | _, _ => False
def sp20 : SpT := spNil
def b19 : List V → (V → Prop) → Prop
  | [.agg [.int .i64 m, .int .i64 a]], k => k (.agg [.int .i64 (made m a).m, .int .i64 (made m a).a])
  | _, _ => False
def sp19 : SpT := spAdd 20 b20 (spNil)
def b7 : List V → (V → Prop) → Prop
  | [.agg [.int .i64 m, .int .i64 a]], k => k (.agg [.int .i64 m, .int .i64 a])
  | _, _ => False
def sp7 : SpT := spNil
def b8 : List V → (V → Prop) → Prop
  | [.agg [.int .i64 m, .int .i64 a]], k => k (.agg [.int .i64 (norm m a).m, .int .i64 (norm m a).a])
  | _, _ => False
def sp8 : SpT := spNil
def b9 : List V → (V → Prop) → Prop
  | [.agg [.int .i64 m, .int .i64 a], .agg [.int .i64 n, .int .i64 b]], k => k (.agg [.int .i64 (join m a n b).m, .int .i64 (join m a n b).a])
  | _, _ => False
def sp9 : SpT := spAdd 19 b19 (spAdd 20 b20 (spNil))
def b10 : List V → (V → Prop) → Prop
  | [.agg [.int .i64 m, .int .i64 a], .agg [.int .i64 n, .int .i64 b]], k => k (.bool (under m a n b))
  | _, _ => False
def sp10 : SpT := spAdd 19 b19 (spNil)
def b13 : List V → (V → Prop) → Prop
  | [.agg [.int .i64 m, .int .i64 a], .int .i64 x], k => k (.agg [.int .i64 (meet m a x).m, .int .i64 (meet m a x).a])
  | _, _ => False
def sp13 : SpT := spAdd 19 b19 (spAdd 20 b20 (spNil))
def b14 : List V → (V → Prop) → Prop
  | [.agg [.int .i64 m, .int .i64 a], .int .i64 x], k => k (.agg [.int .i64 (wout m a x).m, .int .i64 (wout m a x).a])
  | _, _ => False
def sp14 : SpT := spAdd 13 b13 (spNil)
def b18 : List V → (V → Prop) → Prop
  | [.agg [.int .i64 m, .int .i64 a]], k => k (.bool (plain m a))
  | _, _ => False
def sp18 : SpT := spAdd 19 b19 (spNil)
def b11 : List V → (V → Prop) → Prop
  | [], k => k (.bool awakeV)
  | _, _ => False
def sp11 : SpT := spAdd 9 b9 (spNil)
def b16 : List V → (V → Prop) → Prop
  | [.int .i64 x, .int .i64 n], k => (n ≠ 0) ∧ k (.int .i64 (place x n))
  | _, _ => False
def sp16 : SpT := spNil
def b17 : List V → (V → Prop) → Prop
  | [.agg [.int .i64 kd, .agg [.bool neg, .list false ls], .str t, .int .i64 n, .list false ks]], k => k (.agg [.int .i64 (ofK kd n ks.length).m, .int .i64 (ofK kd n ks.length).a])
  | _, _ => False
def sp17 : SpT := spAdd 20 b20 (spNil)
def b15 : List V → (V → Prop) → Prop
  | [.agg [.int .i64 m, .int .i64 a], .agg [.int .i64 kd, .agg [.bool neg, .list false ls], .str t, .int .i64 n, .list false ks]], k => k (.bool (has m a kd n ks.length))
  | _, _ => False
def sp15 : SpT := spAdd 10 b10 (spAdd 17 b17 (spAdd 19 b19 (spNil)))
def b6 : List V → (V → Prop) → Prop
  | [.agg [.int .i64 m, .int .i64 a], .int .i64 x], k => k (.bool true)
  | _, _ => False
def sp6 : SpT := spAdd 7 b7 (spAdd 8 b8 (spAdd 9 b9 (spAdd 10 b10 (spAdd 11 b11 (spAdd 13 b13 (spAdd 14 b14 (spAdd 15 b15 (spAdd 18 b18 (spNil)))))))))
def b3 : List V → (V → Prop) → Prop
  | [.agg [.int .i64 m, .int .i64 a], .agg [.int .i64 n, .int .i64 b], .agg [.int .i64 o, .int .i64 c]], k => k (.bool true)
  | _, _ => False
def sp3 : SpT := spAdd 7 b7 (spAdd 8 b8 (spAdd 9 b9 (spAdd 10 b10 (spAdd 11 b11 (spNil)))))
def b5 : List V → (V → Prop) → Prop
  | [.int .i64 x, .int .i64 y], k => k (.bool true)
  | _, _ => False
def sp5 : SpT := spAdd 9 b9 (spAdd 10 b10 (spAdd 11 b11 (spAdd 13 b13 (spAdd 16 b16 (spAdd 17 b17 (spAdd 18 b18 (spNil)))))))
noncomputable def lightV (t : V) (n : Int) : Int := Classical.epsilon fun m => CallP Try.prog 21 [t, .int .i64 n] (.int .i64 m)
def lightC (ks : List V) (p : Int × Int) : Bool := decide (p.1 < ks.length) && decide (0 ≤ p.2)
noncomputable def lightS (ks : List V) (p : Int × Int) : Int × Int := (p.1 + 1, lightV (getV ks p.1) p.2)
noncomputable def lightL (ks : List V) (i n : Int) : Int := (wh (lightC ks) (lightS ks) (ks.length - i.toNat) (i, n)).2
def b21 (S : V → Prop) : List V → (V → Prop) → Prop
  | [t, .int .i64 n], k => S t ∧ k (.int .i64 (lightV t n))
  | _, _ => False
def sp21 (S : V → Prop) : SpT := spAdd 21 (b21 S) spNil
def ent21 (ks0 : List V) : List V → List Blk → KK → Prop
  | [.int .i64 n, .ptr 0 0 [], .int .i64 i], [⟨none, false, .agg [.int .i64 kd, .agg [.bool neg, .list false ls], .str t, .int .i64 m, .list false ks]⟩], K => ks = ks0 ∧ 0 ≤ i ∧ K (.exit 0) 1 [(1, .int .i64 (lightL ks i n))] []
  | _, _, _ => False
def ls21 (ks0 : List V) : LsT := lsAdd 0 1 [1, 2, 5] [0] (ent21 ks0) noLs
def T36 (t : V) : Prop := Typed Try.prog reachBytes 36 t
def b12 : List V → (V → Prop) → Prop
  | [t, .int .i64 n], k => T36 t ∧ k (.bool (decide (lightV t n ≥ 0)))
  | _, _ => False
def sp12 : SpT := spAdd 21 (b21 T36) spNil
def ends21_0 : EndsL := ⟨1, [1, 2, 5], [0], 0, 1, [1], [], [], []⟩
def sp4 : SpT := spAdd 7 b7 (spAdd 8 b8 (spAdd 11 b11 (spAdd 12 b12 (spAdd 13 b13 (spAdd 14 b14 (spAdd 15 b15 (spNil)))))))
end GoL
