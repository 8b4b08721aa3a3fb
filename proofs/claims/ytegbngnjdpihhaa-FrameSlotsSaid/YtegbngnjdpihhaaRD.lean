/- A part of the proof: a logic for programs of this kind, proved sound over the model; contracts of functions; plain laws. -/
import Derived.Test.YtegbngnjdpihhaaGE
import Derived.Test.YtegbngnjdpihhaaProg
import Derived.KernelRfl
set_option linter.all false
open Go Go.Proofs
namespace GoL
set_option linter.unusedVariables false
set_option linter.unusedSimpArgs false
def made (m a : Int) : Int × Int := ⟨bits .and .i64 m 511, if (bits .and .i64 m 511 != 16) then (if (bits .and .i64 m 511 != 256) then -1 else (if decide (a < -1) then -1 else a)) else (if decide (a < -1) then -1 else a)⟩
def join (m a n b : Int) : Int × Int := if ((made m a).1 == (made 0 (-1)).1 && (made m a).2 == (made 0 (-1)).2) then made 0 (-1) else
  if ((made n b).1 == (made 0 (-1)).1 && (made n b).2 == (made 0 (-1)).2) then made 0 (-1) else
  made (bits .or .i64 (made m a).1 (made n b).1) (if ((made m a).2 == (made n b).2) then (made m a).2 else -1)
def meet (m a x : Int) : Int × Int := made (bits .and .i64 (made m a).1 x) (made m a).2
def plain (m a : Int) : Bool := if ((made m a).1 != 0) then (bits .andNot .i64 (made m a).1 127 == 0) else false
def alikeK (m a n b : Int) : Bool := ((meet m a (-1)).1 == (meet n b (-1)).1 && (meet m a (-1)).2 == (meet n b (-1)).2)
def place (x n : Int) : Int := if decide (x.tmod n < 0) then IntKind.i64.wrap (x.tmod n + n) else x.tmod n
/-- a slice of kinds -/
def KLs (ys : List V) : Prop := ∀ v ∈ ys, ∃ m a : Int, v = .agg [.int .i64 m, .int .i64 a]
def b30 : List V → (V → Prop) → Prop
  | [.int .i64 m, .int .i64 a], k => k (.agg [.int .i64 (made m a).1, .int .i64 (made m a).2])
  | _, _ => False
def sp30 : SpT := spNil
def b32 : List V → (V → Prop) → Prop
  | [.agg [.int .i64 m, .int .i64 a]], k => k (.agg [.int .i64 (made m a).1, .int .i64 (made m a).2])
  | _, _ => False
def sp32 : SpT := spAdd 30 b30 (spNil)
def b26 : List V → (V → Prop) → Prop
  | [.agg [.int .i64 m, .int .i64 a], .agg [.int .i64 n, .int .i64 b]], k => k (.agg [.int .i64 (join m a n b).1, .int .i64 (join m a n b).2])
  | _, _ => False
def sp26 : SpT := spAdd 32 b32 (spAdd 30 b30 (spNil))
def b29 : List V → (V → Prop) → Prop
  | [.agg [.int .i64 m, .int .i64 a], .int .i64 x], k => k (.agg [.int .i64 (meet m a x).1, .int .i64 (meet m a x).2])
  | _, _ => False
def sp29 : SpT := spAdd 32 b32 (spAdd 30 b30 (spNil))
def b28 : List V → (V → Prop) → Prop
  | [.agg [.int .i64 m, .int .i64 a]], k => k (.bool (plain m a))
  | _, _ => False
def sp28 : SpT := spAdd 32 b32 (spNil)
def b19 : List V → (V → Prop) → Prop
  | [.agg [.int .i64 m, .int .i64 a]], k => k (.agg [.int .i64 (meet m a (-1)).1, .int .i64 (meet m a (-1)).2])
  | _, _ => False
def sp19 : SpT := spAdd 29 b29 (spNil)
def b24 : List V → (V → Prop) → Prop
  | [.agg [.int .i64 m, .int .i64 a], .agg [.int .i64 n, .int .i64 b]], k => k (.bool (alikeK m a n b))
  | _, _ => False
def sp24 : SpT := spAdd 19 b19 (spNil)
def b17 : List V → (V → Prop) → Prop
  | [], k => k (.agg [.int .i64 0, .int .i64 (-1)])
  | _, _ => False
def sp17 : SpT := spNil
def b23 : List V → (V → Prop) → Prop
  | [.agg [.int .i64 m, .int .i64 a]], k => k (.bool (alikeK m a 0 (-1)))
  | _, _ => False
def sp23 : SpT := spAdd 17 b17 (spAdd 24 b24 (spNil))
def b8 : List V → (V → Prop) → Prop
  | [.int .i64 n], k => k (.agg [.int .i64 4, .int .i64 n, .list false []])
  | _, _ => False
def sp8 : SpT := spNil
def b5 : List V → (V → Prop) → Prop
  | [.int .i64 x, .int .i64 n], k => (n ≠ 0) ∧ k (.int .i64 (place x n))
  | _, _ => False
def sp5 : SpT := spNil
def zF : Nat → Int × Int := fun _ => (0, 0)
def zS : V := .agg [.agg (arrF 16 zF), .bool false, .nils, .int .i64 0, .nils]
def entF (n : Int) : Nat → Int × Int := fun i => if (i : Int) < n then (127, -1) else (0, -1)
def setF (f : Nat → Int × Int) (j : Nat) (k : Int × Int) : Nat → Int × Int := fun i => if i = j then k else f i
def NLs (ts : List V) : Prop := ∀ v ∈ ts, ∃ n : Int, v = .int .i64 n
def ent6 : List V → List Blk → KK → Prop
  | [.int .i64 n, .ptr 1000 0 [], .ptr 1001 0 [], .int .i64 i], [⟨none, false, t0⟩, ⟨none, false, .agg [.agg X, .bool false, .nils, .int .i64 r, .nils]⟩], K => i = 0 ∧ t0 = zS ∧ r = 0 ∧ (∃ f, X = arrF 16 f) ∧ K (.exit 0) 1003 [(2, .ptr 1000 0 []), (3, .ptr 1001 0 [])] [(1000, ⟨none, false, zS⟩), (1001, ⟨none, false, .agg [.agg (arrF 16 (entF n)), .bool false, .nils, .int .i64 0, .nils]⟩)]
  | _, _, _ => False
def ls6 : LsT := lsAdd 0 1003 [0, 2, 3, 5] [1000, 1001] ent6 noLs
def sp6 : SpT := spAdd 17 b17 spNil
def b6 : List V → (V → Prop) → Prop
  | [.int .i64 n], k => ∀ f, f = entF n → k (.agg [.agg (arrF 16 f), .bool false, .list false [], .int .i64 0, .list false []])
  | _, _ => False
def ends6_0 : EndsL := ⟨1003, [0, 2, 3, 5], [1000, 1001], 0, 1003, [2, 3], [1000, 1001], [], []⟩
def SOk (X ys ts : List V) : Prop := (∃ f, X = arrF 16 f) ∧ KLs ys ∧ ys.length ≤ 1000 ∧ NLs ts ∧ ts.length ≤ 1000
def sp18 : SpT := spNil
def b18 : List V → (V → Prop) → Prop
  | [.agg [.agg X, .bool fr, .list false ys, .int .i64 r, .list false ts]], k => SOk X ys ts ∧ k (.agg [.agg X, .bool fr, .list false ys, .int .i64 r, .list false ts])
  | _, _ => False
def slotB (fr : Bool) (ys : List V) (n : Int) : Bool := if fr then (if decide (n ≥ 0) then decide (n < ys.length) else false) else false
def sp20 : SpT := spNil
def b20 : List V → (V → Prop) → Prop
  | [.agg [.agg X, .bool fr, .list false ys, .int .i64 r, .list false ts], .int .i64 n], k => SOk X ys ts ∧ k (.bool (slotB fr ys n))
  | _, _ => False
def cutF (f : Nat → Int × Int) (n : Int) : Nat → Int × Int := fun i => if (i : Int) < n then f i else (0, -1)
def sp13 : SpT := spAdd 18 b18 (spAdd 17 b17 spNil)
def ent13 : List V → List Blk → KK → Prop
  | [.ptr 1000 0 [], .ptr 1001 0 [], .int .i64 i], [⟨none, false, .agg [.agg X, .bool fr, .list false ys, .int .i64 r, .list false ts]⟩, ⟨none, false, t0⟩], K => 0 ≤ i ∧ t0 = zS ∧ ∃ f, X = arrF 16 f ∧ K (.exit 0) 1007 [(2, .ptr 1000 0 []), (4, .ptr 1001 0 [])] [(1000, ⟨none, false, .agg [.agg (arrF 16 (cutF f i)), .bool fr, .list false ys, .int .i64 r, .list false ts]⟩), (1001, ⟨none, false, zS⟩)]
  | _, _, _ => False
def ls13 : LsT := lsAdd 0 1007 [2, 4, 5] [1000, 1001] ent13 noLs
def b13 : List V → (V → Prop) → Prop
  | [.agg [.agg X, .bool fr, .list false ys, .int .i64 r, .list false ts], .int .i64 n], k => ∃ f, X = arrF 16 f ∧ SOk X ys ts ∧ ∀ g, g = cutF f (if 0 < (if 16 < n then 16 else n) then (if 16 < n then 16 else n) else 0) → k (.agg [.agg (arrF 16 g), .bool fr, .list false ys, .int .i64 r, .list false ts])
  | _, _ => False
def ends13_0 : EndsL := ⟨1007, [2, 4, 5], [1000, 1001], 0, 1007, [2, 4], [1000, 1001], [], []⟩
def sp25 : SpT := spNil
def ent25 : List V → List Blk → KK → Prop
  | [.list false xs, .list false ys, .int .i64 n, .int .i64 i], [], K => i = 0 ∧ n = 0 ∧ K (.exit 0) 1009 [] []
  | _, _, _ => False
def ls25 : LsT := lsAdd 0 1009 [0, 1, 12, 13] [] ent25 noLs
def b25 : List V → (V → Prop) → Prop
  | [.list false xs, .list false ys], k => xs = [] ∧ ys = [] ∧ k (.bool true)
  | _, _ => False
def eqKs : List V → List V → Bool
  | [], [] => true
  | .agg [.int .i64 m, .int .i64 a] :: r, .agg [.int .i64 n, .int .i64 b] :: q => alikeK m a n b && eqKs r q
  | _, _ => false
def sp27 : SpT := spAdd 24 b24 spNil
def ent27 : List V → List Blk → KK → Prop
  | [.list false ys, .fn 24 [], .list false xs, .int .i64 n, .int .i64 i], [], K => i = 0 ∧ n = xs.length ∧ xs.length = ys.length ∧ xs.length ≤ 100000 ∧ KLs xs ∧ KLs ys ∧ (eqKs xs ys = true → K (.exit 0) 1009 [] []) ∧ (eqKs xs ys = false → K .ret 1009 [(6, .gd true (.bool false))] [])
  | _, _, _ => False
def ls27 : LsT := lsAdd 0 1009 [1, 2, 15, 16, 17] [] ent27 noLs
def b27 : List V → (V → Prop) → Prop
  | [.list false xs, .list false ys, .fn 24 []], k => KLs xs ∧ KLs ys ∧ xs.length = ys.length ∧ xs.length ≤ 100000 ∧ k (.bool (eqKs xs ys))
  | _, _ => False
def goodK (m a : Int) : Bool := if plain m a then true else (meet m a (-1)).1 == 128
def goods : List V → Bool
  | [] => true
  | .agg [.int .i64 m, .int .i64 a] :: r => goodK m a && goods r
  | _ :: _ => false
def sp15 : SpT := spAdd 28 b28 (spAdd 19 b19 spNil)
def ent15 : List V → List Blk → KK → Prop
  | [.list false xs, .int .i64 n, .int .i64 i], [], K => i = 0 ∧ n = xs.length ∧ xs.length ≤ 100000 ∧ KLs xs ∧ (goods xs = true → K (.exit 0) 1013 [] []) ∧ (goods xs = false → K .ret 1013 [(4, .gd true (.bool false))] [])
  | _, _, _ => False
def ls15 : LsT := lsAdd 0 1013 [15, 16, 17] [] ent15 noLs
def liveB (f : Nat → Int × Int) (n : Int) : Bool := if decide (n < 0) then false else if decide (n > 16) then false else goods ((arrF 16 f).take n.toNat)
def b15 : List V → (V → Prop) → Prop
  | [.agg [.agg X, .bool fr, .list false ys, .int .i64 r, .list false ts], .int .i64 n], k => ∃ f, X = arrF 16 f ∧ k (.bool (liveB f n))
  | _, _ => False
def joinF (f g : Nat → Int × Int) : Nat → Int × Int := fun i => join (f i).1 (f i).2 (g i).1 (g i).2
def ends25_0 : EndsL := ⟨1009, [0, 1, 12, 13], [], 0, 1009, [], [], [4], []⟩
def ends27_0 : EndsL := ⟨1009, [1, 2, 15, 16, 17], [], 0, 1009, [], [], [6], []⟩
def ends15_0 : EndsL := ⟨1013, [15, 16, 17], [], 0, 1013, [], [], [4], []⟩
def sp12 : SpT := spAdd 18 b18 (spAdd 25 b25 (spAdd 26 b26 spNil))
def ent12_0 : List V → List Blk → KK → Prop
  | [.ptr 1000 0 [], .ptr 1001 0 [], .ptr 1002 0 [], .ptr 1032 0 [], .int .i64 i], [⟨none, false, .agg [.agg X, a1, a2, a3, a4]⟩, ⟨none, false, .agg [.agg Y, b1, b2, b3, b4]⟩, ⟨none, false, t2⟩, ⟨none, false, .agg [.agg Z, c1, c2, c3, c4]⟩], K => ∃ f g h, X = arrF 16 f ∧ Y = arrF 16 g ∧ Z = arrF 16 h ∧ i = 0 ∧
      [a1, a2, a3, a4, b1, b2, b3, b4, t2, c1, c2, c3, c4] = [.bool false, .list false [], .int .i64 0, .list false [], .bool false, .list false [], .int .i64 0, .list false [], zS, .bool false, .list false [], .int .i64 0, .list false []] ∧
      K (.exit 0) 1035 [(2, .ptr 1000 0 []), (3, .ptr 1001 0 []), (4, .ptr 1002 0 []), (6, .ptr 1032 0 [])] [(1000, ⟨none, false, .agg [.agg (arrF 16 f), .bool false, .list false [], .int .i64 0, .list false []]⟩), (1001, ⟨none, false, .agg [.agg (arrF 16 g), .bool false, .list false [], .int .i64 0, .list false []]⟩), (1002, ⟨none, false, zS⟩), (1032, ⟨none, false, .agg [.agg (arrF 16 (joinF f g)), .bool false, .list false [], .int .i64 0, .list false []]⟩)]
  | _, _, _ => False
def ends12_0 : EndsL := ⟨1035, [2, 3, 4, 6, 38], [1000, 1001, 1002, 1032], 0, 1035, [2, 3, 4, 6], [1000, 1001, 1002, 1032], [], []⟩
def ent12_1 : List V → List Blk → KK → Prop
  | [.ptr 1000 0 [], .ptr 1001 0 [], .ptr 1002 0 [], .ptr 1032 0 [], .int .i64 n, .int .i64 i], [⟨none, false, .agg [.agg X, a1, a2, a3, a4]⟩, ⟨none, false, .agg [.agg Y, b1, b2, b3, b4]⟩, ⟨none, false, t2⟩, ⟨none, false, .agg [.agg Z, c1, c2, c3, c4]⟩], K => ∃ f g h, X = arrF 16 f ∧ Y = arrF 16 g ∧ Z = arrF 16 h ∧ i = 0 ∧ n = 0 ∧
      [a1, a2, a3, a4, b1, b2, b3, b4, t2, c1, c2, c3, c4] = [.bool false, .list false [], .int .i64 0, .list false [], .bool false, .list false [], .int .i64 0, .list false [], zS, .bool false, .nils, .int .i64 0, .list false []] ∧
      K (.exit 2) 1042 [(2, .ptr 1000 0 []), (3, .ptr 1001 0 []), (4, .ptr 1002 0 []), (6, .ptr 1032 0 [])] [(1000, ⟨none, false, .agg [.agg (arrF 16 f), .bool false, .list false [], .int .i64 0, .list false []]⟩), (1001, ⟨none, false, .agg [.agg (arrF 16 g), .bool false, .list false [], .int .i64 0, .list false []]⟩), (1002, ⟨none, false, zS⟩), (1032, ⟨none, false, .agg [.agg (arrF 16 h), .bool false, .nils, .int .i64 0, .list false []]⟩)]
  | _, _, _ => False
def ls12 : LsT := lsAdd 0 1035 [2, 3, 4, 6, 38] [1000, 1001, 1002, 1032] ent12_0 (lsAdd 2 1042 [2, 3, 4, 6, 60, 61] [1000, 1001, 1002, 1032] ent12_1 noLs)
def b12 : List V → (V → Prop) → Prop
  | [.agg [.agg X, a1, a2, a3, a4], .agg [.agg Y, b1, b2, b3, b4]], k => ∃ f g, X = arrF 16 f ∧ Y = arrF 16 g ∧ [a1, a2, a3, a4, b1, b2, b3, b4] = [.bool false, .list false [], .int .i64 0, .list false [], .bool false, .list false [], .int .i64 0, .list false []] ∧ ∀ h, h = joinF f g → k (.tup [.agg [.agg (arrF 16 h), .bool false, .list false [], .int .i64 0, .list false []], .bool true])
  | _, _ => False
def sameB (f g : Nat → Int × Int) : Bool := eqKs (arrF 16 f) (arrF 16 g)
def sp14 : SpT := spAdd 25 b25 (spAdd 27 b27 spNil)
def b14 : List V → (V → Prop) → Prop
  | [.agg [.agg X, a1, a2, a3, a4], .agg [.agg Y, b1, b2, b3, b4]], k => ∃ f g, X = arrF 16 f ∧ Y = arrF 16 g ∧ [a1, a2, a3, a4, b1, b2, b3, b4] = [.bool false, .list false [], .int .i64 0, .list false [], .bool false, .list false [], .int .i64 0, .list false []] ∧ k (.bool (sameB f g))
  | _, _ => False
def sp16 : SpT := spAdd 12 b12 (spAdd 14 b14 spNil)
def b16 : List V → (V → Prop) → Prop
  | [.agg [.agg X, a1, a2, a3, a4], .agg [.agg Y, b1, b2, b3, b4]], k => ∃ f g, X = arrF 16 f ∧ Y = arrF 16 g ∧ [a1, a2, a3, a4, b1, b2, b3, b4] = [.bool false, .list false [], .int .i64 0, .list false [], .bool false, .list false [], .int .i64 0, .list false []] ∧ k (.bool (sameB (joinF f g) g))
  | _, _ => False
def ends12_1 : EndsL := ⟨1042, [2, 3, 4, 6, 60, 61], [1000, 1001, 1002, 1032], 2, 1042, [2, 3, 4, 6], [1000, 1001, 1002, 1032], [], []⟩
def idxF : List V → Int → Int
  | [], _ => -1
  | .agg [.int .i64 m, .int .i64 a] :: r, i => if alikeK m a 0 (-1) = true then i else idxF r (i + 1)
  | _ :: _, _ => -1
def sp31 : SpT := spAdd 23 b23 spNil
def ent31 : List V → List Blk → KK → Prop
  | [.list false ys, .fn 23 [], .int .i64 n, .int .i64 i], [], K => i = 0 ∧ n = ys.length ∧ ys.length ≤ 100000 ∧ KLs ys ∧ (idxF ys 0 = -1 → K (.exit 0) 1004 [] []) ∧ (0 ≤ idxF ys 0 → K .ret 1004 [(4, .int .i64 (idxF ys 0))] [])
  | _, _, _ => False
def ls31 : LsT := lsAdd 0 1004 [0, 1, 7, 8] [] ent31 noLs
def b31 : List V → (V → Prop) → Prop
  | [.list false ys, .fn 23 []], k => KLs ys ∧ ys.length ≤ 100000 ∧ k (.int .i64 (idxF ys 0))
  | _, _ => False
def sp22 : SpT := spAdd 31 b31 spNil
def b22 : List V → (V → Prop) → Prop
  | [.list false ys, .fn 23 []], k => KLs ys ∧ ys.length ≤ 100000 ∧ k (.bool (decide (idxF ys 0 ≥ 0)))
  | _, _ => False
def readyB (fr : Bool) (ys : List V) : Bool := if fr = true then !decide (idxF ys 0 ≥ 0) else true
def sp10 : SpT := spAdd 22 b22 spNil
def b10 : List V → (V → Prop) → Prop
  | [.agg [.agg X, .bool fr, .list false ys, .int .i64 r, .list false ts]], k => SOk X ys ts ∧ k (.bool (readyB fr ys))
  | _, _ => False
def sp11 : SpT := spAdd 6 b6 (spAdd 15 b15 spNil)
def b11 : List V → (V → Prop) → Prop
  | [], k => k (.bool true)
  | _, _ => False
def sp4 : SpT := spAdd 5 b5 (spAdd 6 b6 (spAdd 12 b12 (spAdd 13 b13 (spAdd 14 b14 (spAdd 15 b15 (spAdd 16 b16 (spAdd 10 b10 (spAdd 11 b11 spNil))))))))
def ends31_0 : EndsL := ⟨1004, [0, 1, 7, 8], [], 0, 1004, [], [], [4], []⟩
end GoL
