/- A part of the proof: a logic for programs of this kind, proved sound over the model; contracts of functions; plain laws. -/
import Derived.Test.YtegbngnjdpihhaaRP
import Derived.Test.YtegbngnjdpihhaaVA
import Derived.Test.YtegbngnjdpihhaaProg
import Derived.KernelRfl
set_option linter.all false
open Go Go.Proofs
namespace GoL
set_option linter.unusedVariables false
set_option linter.unusedSimpArgs false
def maskOk : V → Bool
  | .agg [.int .i64 m, .int .i64 a] => bits .and .i64 (meet m a (-1)).1 256 == 0
  | _ => false
def putOk (fr : Bool) (ys : List V) (n : Int) : Bool := if slotB fr ys n = true then maskOk (getV ys n) else false
def putY (ys : List V) (n m a : Int) : List V := ys.set n.toNat (.agg [.int .i64 (meet m a (-1)).1, .int .i64 (meet m a (-1)).2])
def h18 : HBody := fun heads rest H1 id k => match heads, rest with
  | [], [.agg [.agg X, .bool fr, .list false ys, .int .i64 r, .list false ts]] => SOk X ys ts ∧ ∀ zs : List V, zs = ys → k (.agg [.agg X, .bool fr, .sl id zs.length, .int .i64 r, .list false ts]) [(id, ⟨some 25, false, .agg zs⟩)]
  | _, _ => False
def h6 : HBody := fun heads rest H1 id k => match heads, rest with
  | [], [.int .i64 n] => ∀ f, f = entF n → k (.agg [.agg (arrF 16 f), .bool false, .nils, .int .i64 0, .nils]) []
  | _, _ => False
def sp7 : SpT := shAdd 18 0 h18 (spAdd 20 b20 (spAdd 19 b19 spNil))
def b7 : List V → (V → Prop) → Prop
  | [.agg [.agg X, .bool fr, .list false ys, .int .i64 r, .list false ts], .agg [.int .i64 tg, .int .i64 n, .list false ls], .agg [.int .i64 m, .int .i64 a]], k => tg = 4 ∧ SOk X ys ts ∧ (putOk fr ys n = true → ∀ zs : List V, zs = putY ys n m a → k (.tup [.agg [.agg X, .bool fr, .list false zs, .int .i64 r, .list false ts], .bool true])) ∧ (putOk fr ys n = false → k (.tup [.agg [.agg X, .bool fr, .list false ys, .int .i64 r, .list false ts], .bool false]))
  | _, _ => False
def saidV : V → Int × Int
  | .agg [.int .i64 m, .int .i64 a] => meet m a (-1)
  | _ => (0, -1)
def srcK (fr : Bool) (ys : List V) (n : Int) : Int × Int := if slotB fr ys n = true then saidV (getV ys n) else (0, -1)
def sp9 : SpT := spAdd 19 b19 (spAdd 20 b20 (spAdd 17 b17 spNil))
def b9 : List V → (V → Prop) → Prop
  | [.agg [.agg X, .bool fr, .list false ys, .int .i64 r, .list false ts], .agg [.int .i64 tg, .int .i64 n, .list false ls], .list false ms], k => tg = 4 ∧ SOk X ys ts ∧ ∀ q : Int × Int, q = srcK fr ys n → k (.agg [.int .i64 q.1, .int .i64 q.2])
  | _, _ => False
def sp3 : SpT := shAdd 6 0 h6 (spAdd 5 b5 (spAdd 8 b8 (spAdd 7 b7 (spAdd 9 b9 (spAdd 10 b10 (spAdd 11 b11 spNil))))))
def NV : V := .agg [.int .i64 0, .int .i64 (-1)]
def ent3 : List V → List Blk → KK → Prop
  | [.int .i64 n, .int .i64 m, .ptr 1014 0 [], .ptr 1017 0 [], .bool p, .int .i64 i], [⟨none, false, .agg [.int .i64 x, .int .i64 y]⟩, ⟨none, false, .agg [.agg X, a1, a2, a3, a4]⟩], K => i = 0 ∧ 0 ≤ n ∧ n ≤ 100 ∧ (∃ f, X = arrF 16 f ∧ [a1, a2, a3, a4] = [.bool true, .nils, .int .i64 0, .nils] ∧ ∀ rows : List V, rows = List.replicate n.toNat NV → K (.exit 0) 1033 [(7, .int .i64 n), (8, .int .i64 m), (9, .ptr 1014 0 []), (10, .ptr 1017 0 []), (12, .bool p)] [(1014, ⟨none, false, .agg [.int .i64 x, .int .i64 y]⟩), (1017, ⟨none, false, .agg [.agg (arrF 16 f), .bool true, .sl 1032 rows.length, .int .i64 0, .nils]⟩), (1032, ⟨some 25, false, .agg rows⟩)])
  | _, _, _ => False
def ls3 : LsT := lsAdd 0 1032 [7, 8, 9, 10, 12, 13] [1014, 1017] ent3 noLs
def ends3_0 : EndsL := ⟨1033, [7, 8, 9, 10, 12, 13], [1014, 1017, 1032], 0, 1033, [7, 8, 9, 10, 12], [1014, 1017, 1032], [], []⟩
end GoL
