/- A part of the proof: a logic for programs of this kind, proved sound over the model; contracts of functions; plain laws. -/
import Derived.Test.YtkkmiicadfmfdaaID
import Derived.Test.YtkkmiicadfmfdaaProg
import Derived.KernelRfl
set_option linter.all false
open Go Go.Proofs
namespace GoL
set_option linter.unusedVariables false
set_option linter.unusedSimpArgs false
/-- all from i on -/
def AllJ (p : Int → Prop) (n i : Int) : Prop := ∀ j : Int, i ≤ j → j < n → p j
noncomputable def decJ (p : Prop) : Bool := @decide p (Classical.propDecidable p)
def namP (s : List UInt8) (i : Int) : Prop := namB (s.getD i.toNat 0) = true
def ent19 : List V → List Blk → KK → Prop
  | [.str s, .bool b, .int .i64 n, .int .i64 i], [], K => n = s.length ∧ s.length ≤ 9223372036854775807 ∧ i = 0 ∧ K (.exit 0) 1000 [(3, .bool (if b then s.all namB else false))] [] ∧ ((if b then s.all namB else false) = false → K (.exit 0) 1000 [(3, .gd true (.bool false))] [])
  | _, _, _ => False
def ls19 : LsT := lsAdd 0 1000 [0, 3, 9, 10] [] ent19 noLs
def sp19 : SpT := spNil
def b19 : List V → (V → Prop) → Prop
  | [.str s], k => k (.bool (namedS s))
  | _, _ => False
def ent26 : List V → List Blk → KK → Prop
  | [.str s, .int .i64 i], [], K => i = 0 ∧ (s.all namB = true → K (.exit 0) 1000 [(0, .str s)] []) ∧ (s.all namB = false → K .ret 1000 [(2, .gd true (.bool false))] [])
  | _, _, _ => False
def ls26 : LsT := lsAdd 0 1000 [0, 3] [] ent26 noLs
def sp26 : SpT := spNil
def b26 : List V → (V → Prop) → Prop
  | [.str s], k => k (.bool (namedS s))
  | _, _ => False
def ends19_0 : EndsL := ⟨1000, [0, 3, 9, 10], [], 0, 1000, [3], [], [], []⟩
def ends26_0 : EndsL := ⟨1000, [0, 3], [], 0, 1000, [0], [], [2], []⟩
def sp28_29 : SpT := spAdd 29 b29 spNil
def ent28_29 : List V → List Blk → KK → Prop
  | [.list false ls, .fn 29 [.dptr (.str s)], .int .i64 n, .int .i64 i], [], K => n = ls.length ∧ ls.length ≤ 9223372036854775807 ∧ i = 0 ∧ CLs ls ∧ (idxI s ls 0 = -1 → K (.exit 0) 1000 [] []) ∧ (idxI s ls 0 ≠ -1 → K .ret 1000 [(4, .int .i64 (idxI s ls 0))] [])
  | _, _, _ => False
def ls28_29 : LsT := lsAdd 0 1000 [0, 1, 7, 8] [] ent28_29 noLs
def ends28_29 : EndsL := ⟨1000, [0, 1, 7, 8], [], 0, 1000, [], [], [4], []⟩
def sp28_31 : SpT := spAdd 31 b31 spNil
def ent28_31 : List V → List Blk → KK → Prop
  | [.list false ls, .fn 31 [.dptr (.str s)], .int .i64 n, .int .i64 i], [], K => n = ls.length ∧ ls.length ≤ 9223372036854775807 ∧ i = 0 ∧ CLs ls ∧ (idxI s ls 0 = -1 → K (.exit 0) 1000 [] []) ∧ (idxI s ls 0 ≠ -1 → K .ret 1000 [(4, .int .i64 (idxI s ls 0))] [])
  | _, _, _ => False
def ls28_31 : LsT := lsAdd 0 1000 [0, 1, 7, 8] [] ent28_31 noLs
def ends28_31 : EndsL := ⟨1000, [0, 1, 7, 8], [], 0, 1000, [], [], [4], []⟩
def b28 : List V → (V → Prop) → Prop
  | [.list false ls, .fn 29 [.dptr (.str s)]], k => CLs ls ∧ k (.int .i64 (idxI s ls 0))
  | [.list false ls, .fn 31 [.dptr (.str s)]], k => CLs ls ∧ k (.int .i64 (idxI s ls 0))
  | _, _ => False
def b30 : List V → (V → Prop) → Prop
  | [.list false ls, .fn 31 [.dptr (.str s)]], k => CLs ls ∧ k (.bool (hasS ls s))
  | _, _ => False
def sp30 : SpT := spAdd 28 b28 spNil
def b20 : List V → (V → Prop) → Prop
  | [.list false ls, .str s], k => CLs ls ∧ k (.bool (hasS ls s))
  | _, _ => False
def sp20 : SpT := spAdd 30 b30 spNil
def b17 : List V → (V → Prop) → Prop
  | [.list false ls, .str s], k => CLs ls ∧ k (.tup [.str (findS s ls).1, .bool (findS s ls).2])
  | _, _ => False
def sp17 : SpT := spAdd 28 b28 spNil
def b18 : List V → (V → Prop) → Prop
  | [.list false ls, .str s], k => CLs ls ∧ k (.tup [.str (findS s ls).1, .bool (findS s ls).2])
  | _, _ => False
def sp18 : SpT := spNil
def ent18 : List V → List Blk → KK → Prop
  | [.list false ls, .str s, .int .i64 i], [], K => i = 0 ∧ CLs ls ∧ ((findS s ls).2 = false → K (.exit 0) 1000 [] []) ∧ ((findS s ls).2 = true → K .ret 1000 [(4, .str (findS s ls).1), (5, .gd true (.bool true))] [])
  | _, _, _ => False
def ls18 : LsT := lsAdd 0 1000 [0, 1, 6] [] ent18 noLs
def ends18_0 : EndsL := ⟨1000, [0, 1, 6], [], 0, 1000, [], [], [4, 5], []⟩
def ends19_1 : EndsL := ⟨1000, [0, 3, 9, 10], [], 0, 1000, [3], [], [], []⟩
end GoL
