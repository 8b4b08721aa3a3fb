/- A part of the proof: a logic for programs of this kind, proved sound over the model; contracts of functions; plain laws. -/
import Derived.Test.YtilnfaogokjhlaaOP
import Derived.Test.YtilnfaogokjhlaaVA
import Derived.Test.YtilnfaogokjhlaaProg
import Derived.KernelRfl
set_option linter.all false
open Go Go.Proofs
namespace GoL
set_option linter.unusedVariables false
set_option linter.unusedSimpArgs false
def made (m a : Int) : Int × Int := ⟨bits .and .i64 m 511, if (bits .and .i64 m 511 != 16) then (if (bits .and .i64 m 511 != 256) then -1 else (if decide (a < -1) then -1 else a)) else (if decide (a < -1) then -1 else a)⟩
def meet (m a x : Int) : Int × Int := made (bits .and .i64 (made m a).1 x) (made m a).2
def plain (m a : Int) : Bool := if ((made m a).1 != 0) then (bits .andNot .i64 (made m a).1 127 == 0) else false
def alikeK (m a n b : Int) : Bool := ((meet m a (-1)).1 == (meet n b (-1)).1 && (meet m a (-1)).2 == (meet n b (-1)).2)
/-- a slice of kinds -/
def KLs (ys : List V) : Prop := ∀ v ∈ ys, ∃ m a : Int, v = .agg [.int .i64 m, .int .i64 a]
def b70 : List V → (V → Prop) → Prop
  | [.int .i64 m, .int .i64 a], k => k (.agg [.int .i64 (made m a).1, .int .i64 (made m a).2])
  | _, _ => False
def sp70 : SpT := spNil
def b50 : List V → (V → Prop) → Prop
  | [.agg [.int .i64 m, .int .i64 a]], k => k (.agg [.int .i64 (made m a).1, .int .i64 (made m a).2])
  | _, _ => False
def sp50 : SpT := spAdd 70 b70 (spNil)
def b46 : List V → (V → Prop) → Prop
  | [.agg [.int .i64 m, .int .i64 a], .int .i64 x], k => k (.agg [.int .i64 (meet m a x).1, .int .i64 (meet m a x).2])
  | _, _ => False
def sp46 : SpT := spAdd 50 b50 (spAdd 70 b70 (spNil))
def b26 : List V → (V → Prop) → Prop
  | [.agg [.int .i64 m, .int .i64 a]], k => k (.bool (plain m a))
  | _, _ => False
def sp26 : SpT := spAdd 50 b50 (spNil)
def b27 : List V → (V → Prop) → Prop
  | [.agg [.int .i64 m, .int .i64 a]], k => k (.agg [.int .i64 (meet m a (-1)).1, .int .i64 (meet m a (-1)).2])
  | _, _ => False
def sp27 : SpT := spAdd 46 b46 (spNil)
def b30 : List V → (V → Prop) → Prop
  | [.agg [.int .i64 m, .int .i64 a], .agg [.int .i64 n, .int .i64 b]], k => k (.bool (alikeK m a n b))
  | _, _ => False
def sp30 : SpT := spAdd 27 b27 (spNil)
def b23 : List V → (V → Prop) → Prop
  | [], k => k (.agg [.int .i64 0, .int .i64 (-1)])
  | _, _ => False
def sp23 : SpT := spNil
def b29 : List V → (V → Prop) → Prop
  | [.agg [.int .i64 m, .int .i64 a]], k => k (.bool (alikeK m a 0 (-1)))
  | _, _ => False
def sp29 : SpT := spAdd 23 b23 (spAdd 30 b30 (spNil))
def zF : Nat → Int × Int := fun _ => (0, 0)
def zS : V := .agg [.agg (arrF 16 zF), .bool false, .nils, .int .i64 0, .nils]
def entF (n : Int) : Nat → Int × Int := fun i => if (i : Int) < n then (127, -1) else (0, -1)
def setF (f : Nat → Int × Int) (j : Nat) (k : Int × Int) : Nat → Int × Int := fun i => if i = j then k else f i
def NLs (ts : List V) : Prop := ∀ v ∈ ts, ∃ n : Int, v = .int .i64 n
def ent10 : List V → List Blk → KK → Prop
  | [.int .i64 n, .ptr 1000 0 [], .ptr 1001 0 [], .int .i64 i], [⟨none, false, t0⟩, ⟨none, false, .agg [.agg X, .bool false, .nils, .int .i64 r, .nils]⟩], K => i = 0 ∧ t0 = zS ∧ r = 0 ∧ (∃ f, X = arrF 16 f) ∧ K (.exit 0) 1003 [(2, .ptr 1000 0 []), (3, .ptr 1001 0 [])] [(1000, ⟨none, false, zS⟩), (1001, ⟨none, false, .agg [.agg (arrF 16 (entF n)), .bool false, .nils, .int .i64 0, .nils]⟩)]
  | _, _, _ => False
def ls10 : LsT := lsAdd 0 1003 [0, 2, 3, 5] [1000, 1001] ent10 noLs
def sp10 : SpT := spAdd 23 b23 spNil
def b10 : List V → (V → Prop) → Prop
  | [.int .i64 n], k => ∀ f, f = entF n → k (.agg [.agg (arrF 16 f), .bool false, .list false [], .int .i64 0, .list false []])
  | _, _ => False
def ends10_0 : EndsL := ⟨1003, [0, 2, 3, 5], [1000, 1001], 0, 1003, [2, 3], [1000, 1001], [], []⟩
def SOk (X ys ts : List V) : Prop := (∃ f, X = arrF 16 f) ∧ KLs ys ∧ ys.length ≤ 1000 ∧ NLs ts ∧ ts.length ≤ 1000
def sp71 : SpT := spNil
def b71 : List V → (V → Prop) → Prop
  | [.agg [.agg X, .bool fr, .list false ys, .int .i64 r, .list false ts]], k => SOk X ys ts ∧ k (.agg [.agg X, .bool fr, .list false ys, .int .i64 r, .list false ts])
  | _, _ => False
def slotB (fr : Bool) (ys : List V) (n : Int) : Bool := if fr then (if decide (n ≥ 0) then decide (n < ys.length) else false) else false
def sp76 : SpT := spNil
def b76 : List V → (V → Prop) → Prop
  | [.agg [.agg X, .bool fr, .list false ys, .int .i64 r, .list false ts], .int .i64 n], k => SOk X ys ts ∧ k (.bool (slotB fr ys n))
  | _, _ => False
def cutF (f : Nat → Int × Int) (n : Int) : Nat → Int × Int := fun i => if (i : Int) < n then f i else (0, -1)
def sp47 : SpT := spAdd 71 b71 (spAdd 23 b23 spNil)
def ent47 : List V → List Blk → KK → Prop
  | [.ptr 1000 0 [], .ptr 1001 0 [], .int .i64 i], [⟨none, false, .agg [.agg X, .bool fr, .list false ys, .int .i64 r, .list false ts]⟩, ⟨none, false, t0⟩], K => 0 ≤ i ∧ t0 = zS ∧ ∃ f, X = arrF 16 f ∧ K (.exit 0) 1007 [(2, .ptr 1000 0 []), (4, .ptr 1001 0 [])] [(1000, ⟨none, false, .agg [.agg (arrF 16 (cutF f i)), .bool fr, .list false ys, .int .i64 r, .list false ts]⟩), (1001, ⟨none, false, zS⟩)]
  | _, _, _ => False
def ls47 : LsT := lsAdd 0 1007 [2, 4, 5] [1000, 1001] ent47 noLs
def b47 : List V → (V → Prop) → Prop
  | [.agg [.agg X, .bool fr, .list false ys, .int .i64 r, .list false ts], .int .i64 n], k => ∃ f, X = arrF 16 f ∧ SOk X ys ts ∧ ∀ g, g = cutF f (if 0 < (if 16 < n then 16 else n) then (if 16 < n then 16 else n) else 0) → k (.agg [.agg (arrF 16 g), .bool fr, .list false ys, .int .i64 r, .list false ts])
  | _, _ => False
def ends47_0 : EndsL := ⟨1007, [2, 4, 5], [1000, 1001], 0, 1007, [2, 4], [1000, 1001], [], []⟩
def goodK (m a : Int) : Bool := if plain m a then true else (meet m a (-1)).1 == 128
def goods : List V → Bool
  | [] => true
  | .agg [.int .i64 m, .int .i64 a] :: r => goodK m a && goods r
  | _ :: _ => false
def sp15 : SpT := spAdd 26 b26 (spAdd 27 b27 spNil)
def ent15 : List V → List Blk → KK → Prop
  | [.list false xs, .int .i64 n, .int .i64 i], [], K => i = 0 ∧ n = xs.length ∧ xs.length ≤ 100000 ∧ KLs xs ∧ (goods xs = true → K (.exit 0) 1013 [] []) ∧ (goods xs = false → K .ret 1013 [(4, .gd true (.bool false))] [])
  | _, _, _ => False
def ls15 : LsT := lsAdd 0 1013 [15, 16, 17] [] ent15 noLs
def liveB (f : Nat → Int × Int) (n : Int) : Bool := if decide (n < 0) then false else if decide (n > 16) then false else goods ((arrF 16 f).take n.toNat)
def b15 : List V → (V → Prop) → Prop
  | [.agg [.agg X, .bool fr, .list false ys, .int .i64 r, .list false ts], .int .i64 n], k => ∃ f, X = arrF 16 f ∧ k (.bool (liveB f n))
  | _, _ => False
def ends15_0 : EndsL := ⟨1013, [15, 16, 17], [], 0, 1013, [], [], [4], []⟩
def idxF : List V → Int → Int
  | [], _ => -1
  | .agg [.int .i64 m, .int .i64 a] :: r, i => if alikeK m a 0 (-1) = true then i else idxF r (i + 1)
  | _ :: _, _ => -1
def sp51 : SpT := spAdd 29 b29 spNil
def ent51 : List V → List Blk → KK → Prop
  | [.list false ys, .fn 29 [], .int .i64 n, .int .i64 i], [], K => i = 0 ∧ n = ys.length ∧ ys.length ≤ 100000 ∧ KLs ys ∧ (idxF ys 0 = -1 → K (.exit 0) 1004 [] []) ∧ (0 ≤ idxF ys 0 → K .ret 1004 [(4, .int .i64 (idxF ys 0))] [])
  | _, _, _ => False
def ls51 : LsT := lsAdd 0 1004 [0, 1, 7, 8] [] ent51 noLs
def b51 : List V → (V → Prop) → Prop
  | [.list false ys, .fn 29 []], k => KLs ys ∧ ys.length ≤ 100000 ∧ k (.int .i64 (idxF ys 0))
  | _, _ => False
def sp28 : SpT := spAdd 51 b51 spNil
def b28 : List V → (V → Prop) → Prop
  | [.list false ys, .fn 29 []], k => KLs ys ∧ ys.length ≤ 100000 ∧ k (.bool (decide (idxF ys 0 ≥ 0)))
  | _, _ => False
def readyB (fr : Bool) (ys : List V) : Bool := if fr = true then !decide (idxF ys 0 ≥ 0) else true
def sp16 : SpT := spAdd 28 b28 spNil
def b16 : List V → (V → Prop) → Prop
  | [.agg [.agg X, .bool fr, .list false ys, .int .i64 r, .list false ts]], k => SOk X ys ts ∧ k (.bool (readyB fr ys))
  | _, _ => False
def ends51_0 : EndsL := ⟨1004, [0, 1, 7, 8], [], 0, 1004, [], [], [4], []⟩
def maskOk : V → Bool
  | .agg [.int .i64 m, .int .i64 a] => bits .and .i64 (meet m a (-1)).1 256 == 0
  | _ => false
def putOk (fr : Bool) (ys : List V) (n : Int) : Bool := if slotB fr ys n = true then maskOk (getV ys n) else false
def putY (ys : List V) (n m a : Int) : List V := ys.set n.toNat (.agg [.int .i64 (meet m a (-1)).1, .int .i64 (meet m a (-1)).2])
def h71 : HBody := fun heads rest H1 id k => match heads, rest with
  | [], [.agg [.agg X, .bool fr, .list false ys, .int .i64 r, .list false ts]] => SOk X ys ts ∧ ∀ zs : List V, zs = ys → k (.agg [.agg X, .bool fr, .sl id zs.length, .int .i64 r, .list false ts]) [(id, ⟨some 24, false, .agg zs⟩)]
  | _, _ => False
def saidV : V → Int × Int
  | .agg [.int .i64 m, .int .i64 a] => meet m a (-1)
  | _ => (0, -1)
def srcK (fr : Bool) (ys : List V) (n : Int) : Int × Int := if slotB fr ys n = true then saidV (getV ys n) else (0, -1)
def inX (tg n : Int) : Bool := if (tg == 3) = true then (if decide (n ≥ 0) = true then decide (n < 16) else false) else false
def putF (f : Nat → Int × Int) (tg n m a : Int) : Nat → Int × Int := if inX tg n = true then setF f n.toNat (meet m a (-1)) else f
def putZ (fr : Bool) (ys : List V) (tg n m a : Int) : List V := if inX tg n = true then ys else if (tg == 4) = true then (if putOk fr ys n = true then putY ys n m a else ys) else ys
def putO (fr : Bool) (ys : List V) (tg n : Int) : Bool := if inX tg n = true then true else if (tg == 4) = true then putOk fr ys n else false
def sp75 : SpT := shAdd 71 0 h71 (spAdd 76 b76 (spAdd 27 b27 spNil))
def b75 : List V → (V → Prop) → Prop
  | [.agg [.agg X, .bool fr, .list false ys, .int .i64 r, .list false ts], .agg [.int .i64 tg, .int .i64 n, .list false ls], .agg [.int .i64 m, .int .i64 a]], k => SOk X ys ts ∧ ∃ f, X = arrF 16 f ∧ ∀ g, g = putF f tg n m a → ∀ zs : List V, zs = putZ fr ys tg n m a → ∀ ok : Bool, ok = putO fr ys tg n → k (.tup [.agg [.agg (arrF 16 g), .bool fr, .list false zs, .int .i64 r, .list false ts], .bool ok])
  | _, _ => False
def kOf (K N : Int) (n : Nat) : Int × Int := if (K == 5) = true then made 16 n else if (K == 9) = true then made 256 N else if decide (K < 1) = true then made 0 (-1) else if decide (K > 9) = true then made 0 (-1) else made (IntKind.i64.wrap (1 * 2 ^ (min (IntKind.i64.wrap (K - 1)).toNat 64))) (-1)
def kOfV : V → Int × Int
  | .agg [.int .i64 K, _, _, .int .i64 N, .list false ks] => kOf K N ks.length
  | _ => (0, -1)
def srcS (f : Nat → Int × Int) (fr : Bool) (ys : List V) (ms : List V) (tg n : Int) : Int × Int := if (tg == 3) = true then (if decide (n ≥ 0) = true then (if decide (n < 16) = true then meet (f n.toNat).1 (f n.toNat).2 (-1) else (0, -1)) else (0, -1)) else if (tg == 4) = true then srcK fr ys n else if (tg == 1) = true then (1, -1) else if (tg == 2) = true then (if (n == 0) = true then (4, -1) else (2, -1)) else if (tg == 6) = true then (if decide (n ≥ 0) = true then (if decide (n < ms.length) = true then kOfV (getV ms n) else (0, -1)) else (0, -1)) else (0, -1)
def b77 : List V → (V → Prop) → Prop
  | [.agg [.int .i64 K, .agg [.bool nb, .list false l], .str q, .int .i64 N, .list false ks]], k => k (.agg [.int .i64 (kOf K N ks.length).1, .int .i64 (kOf K N ks.length).2])
  | _, _ => False
def sp77 : SpT := spAdd 70 b70 spNil
def LitL (ms : List V) : Prop := ∀ v ∈ ms, ∃ (K : Int) (nb : Bool) (l : List V) (q : List UInt8) (N : Int) (ks : List V), v = .agg [.int .i64 K, .agg [.bool nb, .list false l], .str q, .int .i64 N, .list false ks]
def sp72 : SpT := spAdd 27 b27 (spAdd 76 b76 (spAdd 23 b23 (spAdd 77 b77 spNil)))
def b72 : List V → (V → Prop) → Prop
  | [.agg [.agg X, .bool fr, .list false ys, .int .i64 r, .list false ts], .agg [.int .i64 tg, .int .i64 n, .list false ls], .list false ms], k => LitL ms ∧ SOk X ys ts ∧ ∃ f, X = arrF 16 f ∧ ∀ q : Int × Int, q = srcS f fr ys ms tg n → k (.agg [.int .i64 q.1, .int .i64 q.2])
  | _, _ => False
end GoL
