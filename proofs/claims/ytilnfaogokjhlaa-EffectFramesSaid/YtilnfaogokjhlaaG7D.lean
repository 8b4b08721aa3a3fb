/- A part of the proof: a logic for programs of this kind, proved sound over the model; contracts of functions; plain laws. -/
import Derived.Test.YtilnfaogokjhlaaG6P
import Derived.Test.YtilnfaogokjhlaaProg
import Derived.KernelRfl
set_option linter.all false
open Go Go.Proofs
namespace GoL
set_option linter.unusedVariables false
set_option linter.unusedSimpArgs false
def ent3 : List V → List Blk → KK → Prop
  | [.int .i64 many, .ptr 1020 0 [], .int .i64 i], [⟨none, false, .agg [.agg X, .bool fr, .list false ys, .int .i64 rm, .list false ts]⟩], K => i = 0 ∧ fr = false ∧ ys = [] ∧ ts = [] ∧ 0 ≤ rm ∧ rm ≤ 100 ∧ many ≤ 20 ∧ ∃ f, X = arrF 16 f ∧ f 0 = (127, -1) ∧ ∀ (g : Nat → Int × Int) (q : Int), g 0 = (127, -1) → 0 ≤ q → q ≤ 100 → K (.exit 0) 1040 [(7, .ptr 1020 0 [])] [(1020, ⟨none, false, .agg [.agg (arrF 16 g), .bool false, .list false [], .int .i64 q, .list false []]⟩)]
  | _, _, _ => False
def ls3 : LsT := lsAdd 0 1040 [6, 7, 11] [1020] ent3 noLs
def sp3 : SpT := spAdd 6 b6 (spAdd 9 b9 (spAdd 8 b8 (spAdd 10 b10 (spAdd 7 b7 (spAdd 11 b11 (spAdd 12 b12 (spAdd 13 b13 (spAdd 14 b14 spNil))))))))
def sp5 : SpT := spAdd 6 b6 (spAdd 8 b8 (spAdd 10 b10 (spAdd 7 b7 (spAdd 11 b11 (spAdd 12 b12 (spAdd 18 b18 spNil))))))
def kF : V := .agg [.int .i64 4, .int .i64 (-1)]
def kE : V := .agg [.int .i64 0, .int .i64 (-1)]
def ysI : Nat → Nat → List V
  | 0, _ => []
  | n + 1, 0 => kE :: ysI n 0
  | n + 1, i + 1 => kF :: ysI n i
def ent4 : List V → List Blk → KK → Prop
  | [.int .i64 k, .int .i64 t, .ptr 1010 0 [], .ptr 1025 0 [], .int .i64 i], [⟨none, false, m⟩, ⟨none, false, .agg [.agg X, .bool fr, .list false ys, .int .i64 rm, .list false ts]⟩], K => i = 0 ∧ m = .agg [.nils, .nils, .nils, .nils, .nils, .nils] ∧ fr = true ∧ ts = [] ∧ rm = 0 ∧ 0 ≤ k ∧ k ≤ 12 ∧ ys = ysI k.toNat 0 ∧ ∃ f, X = arrF 16 f ∧ K (.exit 0) 1064 [(7, .int .i64 k), (8, .int .i64 t), (10, .ptr 1010 0 []), (11, .ptr 1025 0 [])] [(1010, ⟨none, false, m⟩), (1025, ⟨none, false, .agg [.agg (arrF 16 f), .bool true, .list false (ysI k.toNat k.toNat), .int .i64 0, .list false []]⟩)]
  | _, _, _ => False
def ls4 : LsT := lsAdd 0 1064 [7, 8, 10, 11, 15] [1010, 1025] ent4 noLs
def sp4 : SpT := spAdd 6 b6 (spAdd 9 b9 (spAdd 8 b8 (spAdd 10 b10 (spAdd 7 b7 (spAdd 11 b11 (spAdd 15 b15 (spAdd 16 b16 (spAdd 17 b17 spNil))))))))

def ends3_0 : EndsL := ⟨1040, [6, 7, 11], [1020], 0, 1040, [7], [1020], [4], []⟩
def ends4_0 : EndsL := ⟨1064, [7, 8, 10, 11, 15], [1010, 1025], 0, 1064, [7, 8, 10, 11], [1010, 1025], [6], []⟩
end GoL
