/- A part of the proof: a logic for programs of this kind, proved sound over the model; contracts of functions; plain laws. -/
import Derived.Test.YtkkmiicadfmfdaaSD
import Derived.Test.YtkkmiicadfmfdaaProg
import Derived.KernelRfl
set_option linter.all false
open Go Go.Proofs
namespace GoL
set_option linter.unusedVariables false
set_option linter.unusedSimpArgs false
def ChkIs (vs : List V) (nm d : List UInt8) : Prop := chkS vs = .agg [.str nm, .str d]
def RowsIs (ls R : List V) : Prop := R = mkRows ls
def NxtIs (vs w : List V) : Prop := w = nxtS vs
def ErrIs (acc vs : List V) (e : Int) : Prop := e = errS acc vs
def sumB (vs : List V) : Nat → Nat → Int
  | _, 0 => 0
  | i, k + 1 => bAt vs i + sumB vs (i + 1) k
def ent18s : List V → List Blk → KK → Prop
  | [.sl 0 len, .str s, .int .i64 i], [⟨some 36, false, .agg ls⟩], K => len = ls.length ∧ i = 0 ∧ CLs ls ∧ ((findS s ls).2 = false → K (.exit 0) 1000 [] [(0, ⟨some 36, false, .agg ls⟩)]) ∧ ((findS s ls).2 = true → K .ret 1000 [(4, .str (findS s ls).1), (5, .gd true (.bool true))] [(0, ⟨some 36, false, .agg ls⟩)])
  | _, _, _ => False
def ls18s : LsT := lsAdd 0 1000 [0, 1, 6] [0] ent18s noLs
def h18 : HBody := fun heads rest H1 id k => match heads, rest with
  | [.sl c len], [.str s] => match H1 c with
    | some ⟨some 36, false, .agg ls⟩ => (len = ls.length ∧ CLs ls) ∧ ∀ (d : List UInt8) (b : Bool), findS s ls = (d, b) → k (.tup [.str d, .bool b]) [(c, ⟨some 36, false, .agg ls⟩)]
    | _ => False
  | _, _ => False
def sp25 : SpT := shAdd 18 1 h18 (spAdd 24 b24 (spAdd 26 b26 spNil))
def ent25 : List V → List Blk → KK → Prop
  | [.list false vs, .sl 0 len, .ptr 1000 0 [], .int .i64 a, .ptr 1029 0 [], .int .i64 f, .int .i64 i], [⟨some 36, false, .agg acc⟩, ⟨none, false, .agg [.str z1, .str z2]⟩, ⟨none, false, .agg [.str nm, .str d]⟩], K => BLs vs ∧ len = acc.length ∧ f = 0 ∧ 0 ≤ i ∧ i ≤ a ∧ a + 8 ≤ vs.length ∧ vs.length ≤ 65536 ∧ CLs acc ∧ (∀ x : Int, x = sumB vs (i + 8).toNat (a - i).toNat → K (.exit 0) 1034 [(0, .list false vs), (1, .sl 0 len), (4, .ptr 1000 0 []), (8, .int .i64 a), (9, .ptr 1029 0 []), (10, .int .i64 x)] [(0, ⟨some 36, false, .agg acc⟩), (1000, ⟨none, false, .agg [.str z1, .str z2]⟩), (1029, ⟨none, false, .agg [.str nm, .str d]⟩)])
  | _, _, _ => False
def ls25 : LsT := lsAdd 0 1034 [0, 1, 4, 8, 9, 10, 11] [0, 1000, 1029] ent25 noLs
def h25 : HBody := fun heads rest H1 id k => match heads, rest with
  | [.list false vs, .sl c len], [] => match H1 c with
    | some ⟨some 36, false, .agg acc⟩ => (len = acc.length ∧ BLs vs ∧ CLs acc ∧ vs.length ≤ 65536) ∧ ∀ e : Int, ErrIs acc vs e → (e = 0 → ∀ (nm d : List UInt8) (w : List V), ChkIs vs nm d → NxtIs vs w → k (.tup [.agg [.str nm, .str d], .list false w, .int .i64 0]) [(c, ⟨some 36, false, .agg acc⟩)]) ∧ (e ≠ 0 → k (.tup [.agg [.str [], .str []], .nils, .int .i64 e]) [(c, ⟨some 36, false, .agg acc⟩)])
    | _ => False
  | _, _ => False
def ends18s : EndsL := ⟨1000, [0, 1, 6], [0], 0, 1000, [], [0], [4, 5], [0]⟩
def ends25_0 : EndsL := ⟨1034, [0, 1, 4, 8, 9, 10, 11], [0, 1000, 1029], 0, 1034, [0, 1, 4, 8, 9, 10], [0, 1000, 1029], [], []⟩
def sp15 : SpT := shAdd 25 2 h25 (spAdd 24 b24 spNil)
def ent15 : List V → List Blk → KK → Prop
  | [.nils, .list false vs], [], K => BLs vs ∧ vs.length ≤ 65536 ∧ ((parseR [] vs).2 = 0 → K (.exit 1) 1035 [(4, .sl 1034 (parseR [] vs).1.length)] [(1034, ⟨some 36, false, .agg (parseR [] vs).1⟩)]) ∧ ((parseR [] vs).2 ≠ 0 → K .ret 1035 [(2, .nils), (3, .int .i64 (parseR [] vs).2)] [])
  | _, _, _ => False
def ls15 : LsT := lsAdd 1 1034 [4, 5] [] ent15 noLs
def ends15_0 : EndsL := ⟨1035, [4, 5], [1034], 1, 1035, [4], [1034], [2, 3], []⟩
def sp16 : SpT := spAdd 26 b26 (spAdd 18 b18 (spAdd 27 b27 spNil))
def ent16i : List V → List Blk → KK → Prop
  | [.list false ls, .sl 1004 len, .int .i64 i, .int .i64 k], [⟨some 5, false, .agg rows⟩], K => len = rows.length ∧ BLs rows ∧ rows.length ≤ 1000000000 ∧ 0 ≤ k ∧ k ≤ 100000 ∧ K (.exit 2) 1005 [(0, .list false ls), (4, .sl 1004 (rows ++ List.replicate (fillI k).toNat (V.int .u8 0)).length), (5, .int .i64 i)] [(1004, ⟨some 5, false, .agg (rows ++ List.replicate (fillI k).toNat (V.int .u8 0))⟩)]
  | _, _, _ => False
def ls16i : LsT := lsAdd 2 1005 [0, 4, 5, 8] [1004] ent16i noLs
def ent16 : List V → List Blk → KK → Prop
  | [.list false ls, .nils, .int .i64 i], [], K => i = 0 ∧ FitC ls ∧ sumC ls ≤ 1000000 ∧ (mkErrR [] ls = 0 → ∀ R : List V, RowsIs ls R → K (.exit 0) 1005 [(4, .sl 1004 R.length)] [(1004, ⟨some 5, false, .agg R⟩)]) ∧ (mkErrR [] ls ≠ 0 → K .ret 1005 [(2, .nils), (3, .int .i64 (mkErrR [] ls))] [])
  | _, _, _ => False
def ls16 : LsT := lsAdd 0 1004 [0, 4, 5] [] ent16 noLs
def ends16_1 : EndsL := ⟨1005, [0, 4, 5, 8], [1004], 2, 1005, [0, 4, 5], [1004], [], []⟩
def ends16_0 : EndsL := ⟨1005, [0, 4, 5], [1004], 0, 1005, [4], [1004], [2, 3], []⟩
def b15 : List V → (V → Prop) → Prop
  | [.list false vs], k => BLs vs ∧ ∀ (l : List V) (e : Int), parseS vs = (l, e) → k (.tup [.list false l, .int .i64 e])
  | _, _ => False
def b16 : List V → (V → Prop) → Prop
  | [.list false ls], k => FitC ls ∧ sumC ls ≤ 1000000 ∧ (mkE ls = 0 → ∀ rows : List V, rows = mkS ls → k (.tup [.list false rows, .int .i64 0])) ∧ (∀ e : Int, e = mkE ls → e ≠ 0 → k (.tup [.list false [], .int .i64 e]))
  | _, _ => False
def b17n : List V → (V → Prop) → Prop
  | [.list false ls, .str s], k => CLs ls ∧ ∀ (d : List UInt8) (b : Bool), findS s ls = (d, b) → k (.tup [.str d, .bool b])
  | _, _ => False
def sp6 : SpT := shAdd 10 0 h10 (spAdd 11 b11 (spAdd 8 b8 (spAdd 9 b9 (spAdd 12 b12 (spAdd 13 b13 (spAdd 15 b15 (spAdd 16 b16 (spAdd 17 b17n (spAdd 18 b17n spNil)))))))))
end GoL
