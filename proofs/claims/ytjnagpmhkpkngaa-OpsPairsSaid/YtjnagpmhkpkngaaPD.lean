/- A part of the proof: a logic for programs of this kind, proved sound over the model; contracts of functions; plain laws. -/
import Derived.Test.YtjnagpmhkpkngaaFD
import Derived.Test.YtjnagpmhkpkngaaProg
import Derived.KernelRfl
set_option linter.all false
open Go Go.Proofs
namespace GoL
set_option linter.unusedVariables false
set_option linter.unusedSimpArgs false
def nI (n : Int) : V := .agg [.int .i64 1, .int .i64 n, .list false []]
def nF (n : Int) : V := .agg [.int .i64 5, .int .i64 n, .list false []]
def intV : V → Int
  | .int _ n => n
  | _ => 0
def prow (ls : List V) : Nat → List V
  | 0 => []
  | k + 1 => prow ls k ++ [nI k, nF (1 + place (intV (getV ls (k : Nat))) 100)]
def h15 : HBody := fun heads rest H1 id k => match heads, rest with
  | [], [.list false xs] => ((∀ v, List.Mem v xs → V.sz v = 3) ∧ xs.length ≤ 1000) ∧ k (.agg [.int .i64 7, .int .i64 0, .sl id xs.length]) [(id, ⟨some 28, false, .agg xs⟩)]
  | _, _ => False
def sp15 : SpT := spNil
def sp4 : SpT := shAdd 15 0 h15 (spAdd 14 b14 (spAdd 16 b16 (spAdd 17 b17 (spAdd 18 b18 (spAdd 19 b19g (spAdd 20 b20 (spAdd 21 b21 spNil)))))))
def ent4 : List V → List Blk → KK → Prop
  | [.list false ls, .bool tw, .int .i64 hw, .ptr 1002 0 [], .int .i64 i], [⟨some 28, false, .agg rows⟩, ⟨none, false, .agg [.int .i64 7, .int .i64 0, .sl 1001 m]⟩], K => i = 0 ∧ rows = [] ∧ m = 0 ∧ (∀ u ∈ ls, Typed Try.prog reachBytes 3 u) ∧ ls.length ≤ 9223372036854775807 ∧ K (.exit 0) 1005 [(1, .bool tw), (2, .int .i64 hw), (7, .ptr 1002 0 [])] [(1001, ⟨some 28, false, .agg (prow ls (min 15 ls.length))⟩), (1002, ⟨none, false, .agg [.int .i64 7, .int .i64 0, .sl 1001 (prow ls (min 15 ls.length)).length]⟩)]
  | _, _, _ => False
def ls4 : LsT := lsAdd 0 1005 [0, 1, 2, 7, 8] [1001, 1002] ent4 noLs
def ends4_0 : EndsL := ⟨1005, [0, 1, 2, 7, 8], [1001, 1002], 0, 1005, [1, 2, 7], [1001, 1002], [], []⟩
end GoL
