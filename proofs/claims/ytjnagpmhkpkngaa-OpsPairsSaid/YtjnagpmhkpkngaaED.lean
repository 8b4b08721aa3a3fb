/- A part of the proof: a logic for programs of this kind, proved sound over the model; contracts of functions; plain laws. -/
import Derived.Test.YtjnagpmhkpkngaaCD
import Derived.Test.YtjnagpmhkpkngaaProg
import Derived.KernelRfl
set_option linter.all false
open Go Go.Proofs
namespace GoL
set_option linter.unusedVariables false
set_option linter.unusedSimpArgs false
def b23 (S : List V → Prop) : List V → (V → Prop) → Prop
  | [.list false xs], k => S xs ∧ k (.list false xs)
  | _, _ => False
def b31 (S : List V → Prop) : List V → (V → Prop) → Prop
  | [.agg [.int .i64 t, .int .i64 n, .list false ls]], k => S ls ∧ k (.agg [.int .i64 t, .int .i64 n, .list false ls])
  | _, _ => False
def sp31 (S : List V → Prop) : SpT := spAdd 23 (b23 S) spNil
def sp23 (S : List V → Prop) : SpT := spAdd 31 (b31 S) spNil
def ent23 (x0 : List V) : List V → List Blk → KK → Prop
  | [.list false xs, .nils, .int .i64 i], [], K => xs = x0 ∧ i = 0 ∧ K (.exit 0) 1001 [(3, .sl 1000 xs.length)] [(1000, ⟨some 28, false, .agg xs⟩)]
  | _, _, _ => False
def ls23 (x0 : List V) : LsT := lsAdd 0 1000 [0, 3, 4] [] (ent23 x0) noLs
def ends23_0 : EndsL := ⟨1001, [0, 3, 4], [1000], 0, 1001, [3], [1000], [], []⟩
def TyL (l : List V) : Prop := ∀ u ∈ l, Typed Try.prog reachBytes 28 u
def sp5 : SpT := spAdd 22 (b22 TyL) (spAdd 14 b14 (spAdd 23 (b23 fun l => TyL l ∧ Few l) (spAdd 19 b19g (spAdd 24 b24 (spAdd 25 b25g (spAdd 26 b26 (spAdd 8 b8 (spAdd 9 b9 (spAdd 10 b10g (spAdd 11 b11 (spAdd 12 b12 (spAdd 13 b13 (spNil)))))))))))))
end GoL
