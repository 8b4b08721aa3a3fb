/- A part of the proof: a logic for programs of this kind, proved sound over the model; contracts of functions; plain laws. -/
import Derived.Test.YtkkmiicadfmfdaaSD
import Derived.Test.YtkkmiicadfmfdaaProg
import Derived.KernelRfl
set_option linter.all false
open Go Go.Proofs
namespace GoL
set_option linter.unusedVariables false
set_option linter.unusedSimpArgs false
def sp4 : SpT := shAdd 10 0 h10 (spAdd 11 b11 (spAdd 8 b8 (spAdd 9 b9 (spAdd 14 b14 spNil))))
def strV : V → List UInt8
  | .str s => s
  | _ => []
def StL (xs : List V) : Prop := ∀ u ∈ xs, ∃ s, u = .str s
def nmD (i : Int) : List UInt8 := [67, 104] ++ ([48, 49, 50, 51, 52, 53, 54, 55, 56, 57].drop i.toNat).take 1 ++ [120]
def cS (xs : List V) : Nat → List V
  | 0 => []
  | k + 1 => cS xs k ++ [chV (nmD (k : Nat)) (strV (getV xs (k : Nat)))]
def sp5 : SpT := shAdd 10 0 h10 (spAdd 11 b11 (spAdd 9 b9 spNil))
def sp7 : SpT := shAdd 10 0 h10 (spAdd 9 b9 (spAdd 14 b14 (spAdd 17 b17 spNil)))
def ent5 : List V → List Blk → KK → Prop
  | [.list false xs, .int .u32 v, .nils, .int .i64 i], [], K => StL xs ∧ xs.length ≤ 9223372036854775807 ∧ i = 0 ∧ ((∀ j : Int, 0 ≤ j → j < xs.length → j < 5 → ((strV (getV xs j)).length : Int) ≤ 500) → K (.exit 0) 1004 [(1, .int .u32 v), (5, .sl 1003 (cS xs (min 5 xs.length)).length)] [(1003, ⟨some 36, false, .agg (cS xs (min 5 xs.length))⟩)]) ∧ (¬ (∀ j : Int, 0 ≤ j → j < xs.length → j < 5 → ((strV (getV xs j)).length : Int) ≤ 500) → K .ret 1004 [(4, .bool true)] [])
  | _, _, _ => False
def ls5 : LsT := lsAdd 0 1003 [0, 1, 5, 6] [] ent5 noLs
def ent7 : List V → List Blk → KK → Prop
  | [.list false xs, .int .i64 at0, .nils, .int .i64 n, .int .i64 i], [], K => StL xs ∧ xs.length ≤ 9223372036854775807 ∧ n = 12 ∧ i = 0 ∧ ((∀ j : Int, 0 ≤ j → j < xs.length → j < 10 → ((strV (getV xs j)).length : Int) ≤ 2000) → K (.exit 0) 1005 [(0, .list false xs), (1, .int .i64 at0), (5, .sl 1004 (cS xs (min 10 xs.length)).length), (6, .int .i64 (12 + sumC (cS xs (min 10 xs.length))))] [(1004, ⟨some 36, false, .agg (cS xs (min 10 xs.length))⟩)]) ∧ (¬ (∀ j : Int, 0 ≤ j → j < xs.length → j < 10 → ((strV (getV xs j)).length : Int) ≤ 2000) → K .ret 1005 [(4, .bool true)] [])
  | _, _, _ => False
def ls7 : LsT := lsAdd 0 1004 [0, 1, 5, 6, 7] [] ent7 noLs
def ends5_0 : EndsL := ⟨1004, [0, 1, 5, 6], [1003], 0, 1004, [1, 5], [1003], [4], []⟩
def ends7_0 : EndsL := ⟨1005, [0, 1, 5, 6, 7], [1004], 0, 1005, [0, 1, 5, 6], [1004], [4], []⟩
end GoL
