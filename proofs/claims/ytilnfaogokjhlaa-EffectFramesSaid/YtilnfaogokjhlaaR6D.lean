/- A part of the proof: a logic for programs of this kind, proved sound over the model; contracts of functions; plain laws. -/
import Derived.Test.YtilnfaogokjhlaaG1P
import Derived.Test.YtilnfaogokjhlaaProg
import Derived.KernelRfl
set_option linter.all false
open Go Go.Proofs
namespace GoL
set_option linter.unusedVariables false
set_option linter.unusedSimpArgs false
def sp79 : SpT := spNil
def b79 : List V → (V → Prop) → Prop
  | [.int .u64 x, .int .u64 y], k => x = 1 ∧ 0 ≤ y ∧ y ≤ 100 ∧ k (.tup [.int .u64 0, .int .u64 y])
  | _, _ => False
def sp73 : SpT := spAdd 79 b79 spNil
def b73 : List V → (V → Prop) → Prop
  | [.int .u64 x, .int .u64 y], k => x = 1 ∧ 0 ≤ y ∧ y ≤ 100 ∧ k (.tup [.int .u64 0, .int .u64 y])
  | _, _ => False
def sp60 : SpT := spAdd 73 b73 spNil
def kZ : V := .agg [.int .i64 0, .int .i64 0]
def kO : V := .agg [.int .i64 0, .int .i64 (-1)]
def fil (n i : Nat) : List V := List.replicate i kO ++ List.replicate (n - i) kZ
def ent60 : List V → List Blk → KK → Prop
  | [.sl 1022 len, .int .i64 i], [⟨some 24, false, .agg rows⟩], K => ∃ n : Nat, n ≤ 100 ∧ len = n ∧ rows = fil n (min 1 n) ∧ i = (min 1 n : Nat) ∧ K (.exit 0) 1028 [(7, .sl 1022 n)] [(1022, ⟨some 24, false, .agg (fil n n)⟩)]
  | _, _, _ => False
def ls60 : LsT := lsAdd 0 1028 [7, 8] [1022] ent60 noLs

def ends60_0 : EndsL := ⟨1028, [7, 8], [1022], 0, 1028, [7], [1022], [], []⟩
end GoL
