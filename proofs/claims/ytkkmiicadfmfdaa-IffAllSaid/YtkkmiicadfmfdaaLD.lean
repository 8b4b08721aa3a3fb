/- A part of the proof: a logic for programs of this kind, proved sound over the model; contracts of functions; plain laws. -/
import Derived.Test.YtkkmiicadfmfdaaJD
import Derived.Test.YtkkmiicadfmfdaaProg
import Derived.KernelRfl
set_option linter.all false
open Go Go.Proofs
namespace GoL
set_option linter.unusedVariables false
set_option linter.unusedSimpArgs false
def szC (u : V) : Int := 8 + ((dtV u).length : Int) + fillI ((dtV u).length : Int)
def sumC : List V → Int
  | [] => 0
  | u :: r => szC u + sumC r
def mkErrR : List V → List V → Int
  | _, [] => 0
  | pre, u :: r => if namedS (nmV u) = false then 1 else if hasS pre (nmV u) = true then 6 else mkErrR (pre ++ [u]) r
def chB (u : V) : List V := bl (nmV u) ++ fourV ((dtV u).length : Int) ++ bl (dtV u) ++ List.replicate (fillI ((dtV u).length : Int)).toNat (.int .u8 0)
def mkHd (n : Int) : List V := [.int .u8 70, .int .u8 79, .int .u8 82, .int .u8 49] ++ fourV n ++ [.int .u8 66, .int .u8 69, .int .u8 65, .int .u8 77]
def mkRows (ls : List V) : List V := ls.flatMap chB
def FitC (ls : List V) : Prop := CLs ls ∧ ls.length ≤ 100000 ∧ ∀ u ∈ ls, (dtV u).length ≤ 100000
def ent10_0 : List V → List Blk → KK → Prop
  | [.list false l0, .int .i64 n, .list false ls, .int .i64 m, .int .i64 i], [], K => l0 = ls ∧ n = 12 ∧ m = ls.length ∧ i = 0 ∧ FitC ls ∧ (mkErrR [] ls = 0 → K (.exit 0) 1006 [(0, .list false ls), (4, .int .i64 (12 + sumC ls))] []) ∧ (mkErrR [] ls ≠ 0 → K .ret 1006 [(2, .nils), (3, .int .i64 (mkErrR [] ls))] [])
  | _, _, _ => False
def ent10_1 : List V → List Blk → KK → Prop
  | [.sl 1008 len, .list false ls, .int .i64 m, .int .i64 i], [⟨some 5, false, .agg rows⟩], K => len = rows.length ∧ m = ls.length ∧ i = 0 ∧ FitC ls ∧ (∀ u ∈ ls, (nmV u).length = 4) ∧ sumC ls ≤ 65536 ∧ BLs rows ∧ rows.length = 12 ∧ K (.exit 3) 1018 [(7, .sl 1008 (rows ++ mkRows ls).length)] [(1008, ⟨some 5, false, .agg (rows ++ mkRows ls)⟩)]
  | _, _, _ => False
def ls10 : LsT := lsAdd 0 1006 [0, 4, 10, 11, 12] [] ent10_0 (lsAdd 3 1018 [7, 49, 50, 51] [1008] ent10_1 noLs)
def sp10 : SpT := shAdd 22 1 h22 (spAdd 19 b19 (spAdd 20 b20 (spAdd 21 b21 spNil)))
def ends10_0 : EndsL := ⟨1006, [0, 4, 10, 11, 12], [], 0, 1006, [0, 4], [], [2, 3], []⟩
def ends10_1 : EndsL := ⟨1018, [7, 49, 50, 51], [1008], 3, 1018, [7], [1008], [], []⟩
def mkE (ls : List V) : Int := if mkErrR [] ls = 0 then (if 12 + sumC ls > 65536 then 2 else 0) else mkErrR [] ls
def mkS (ls : List V) : List V := mkHd (4 + sumC ls) ++ mkRows ls
def h10 : HBody := fun heads rest H1 id k => match heads, rest with
  | [], [.list false ls] => FitC ls ∧ (mkE ls = 0 → ∀ rows : List V, rows = mkS ls → k (.tup [.sl id rows.length, .int .i64 0]) [(id, ⟨some 5, false, .agg rows⟩)]) ∧ (∀ e : Int, e = mkE ls → e ≠ 0 → k (.tup [.nils, .int .i64 e]) [])
  | _, _ => False
def okC (u : V) : Prop := ¬ ((dtV u).length : Int) > 3000 ∧ ¬ ((nmV u).length : Int) > 20
def fewP (ls : List V) : Prop := ls.length ≤ 12 ∧ ∀ u ∈ ls, okC u
def ent8 : List V → List Blk → KK → Prop
  | [.list false ls, .int .i64 i], [], K => i = 0 ∧ CLs ls ∧ ((∀ j : Int, 0 ≤ j → j < ls.length → j < 12 → okC (getV ls j)) → K (.exit 0) 1000 [(0, .list false ls)] []) ∧ (¬ (∀ j : Int, 0 ≤ j → j < ls.length → j < 12 → okC (getV ls j)) → K .ret 1000 [(2, .gd true (.bool false))] [])
  | _, _, _ => False
def ls8 : LsT := lsAdd 0 1000 [0, 3] [] ent8 noLs
def sp8 : SpT := spNil
def b8 : List V → (V → Prop) → Prop
  | [.list false ls], k => CLs ls ∧ k (.bool (decJ (fewP ls)))
  | _, _ => False
def sp12 : SpT := spNil
def ent12 : List V → List Blk → KK → Prop
  | [.list false xs, .list false ys, .int .i64 i], [], K => i = 0 ∧ CLs xs ∧ CLs ys ∧ xs.length = ys.length ∧ (xs = ys → K (.exit 0) 1000 [] []) ∧ (xs ≠ ys → K .ret 1000 [(4, .gd true (.bool false))] [])
  | _, _, _ => False
def ls12 : LsT := lsAdd 0 1000 [0, 1, 5] [] ent12 noLs
def b12 : List V → (V → Prop) → Prop
  | [.list false xs, .list false ys], k => (CLs xs ∧ CLs ys) ∧ k (.bool (decJ (xs = ys)))
  | _, _ => False
def ends8_0 : EndsL := ⟨1000, [0, 3], [], 0, 1000, [0], [], [2], []⟩
def ends12_0 : EndsL := ⟨1000, [0, 1, 5], [], 0, 1000, [], [], [4], []⟩
end GoL
