/- A part of the proof: a logic for programs of this kind, proved sound over the model; contracts of functions; plain laws. -/
import Derived.Test.YtkkmiicadfmfdaaGE
import Derived.Test.YtkkmiicadfmfdaaProg
import Derived.KernelRfl
set_option linter.all false
open Go Go.Proofs
namespace GoL
set_option linter.unusedVariables false
set_option linter.unusedSimpArgs false
def BLs (vs : List V) : Prop := ∀ v ∈ vs, isByte v
def toS (vs : List V) : List UInt8 := vs.map byteV
def bl (s : List UInt8) : List V := s.map fun b => V.int .u8 b.toNat
def nmV : V → List UInt8
  | .agg (.str s :: _) => s
  | _ => []
def dtV : V → List UInt8
  | .agg [_, .str d] => d
  | _ => []
def fillI (n : Int) : Int := (-n) % 4
def bAt (vs : List V) (i : Nat) : Int := ((byteV (vs.getD i .junk)).toNat : Int)
def numS (vs : List V) : Int := bAt vs 0 * 16777216 + bAt vs 1 * 65536 + bAt vs 2 * 256 + bAt vs 3
def fourV (n : Int) : List V := [.int .u8 (IntKind.u8.wrap (n.fdiv 16777216)), .int .u8 (IntKind.u8.wrap (n.fdiv 65536)), .int .u8 (IntKind.u8.wrap (n.fdiv 256)), .int .u8 (IntKind.u8.wrap n)]
def namB (b : UInt8) : Bool := if decide ((b.toNat : Int) ≥ 32) then decide ((b.toNat : Int) ≤ 126) else false
def namedS (s : List UInt8) : Bool := if ((s.length : Int) == 4) then s.all namB else false
def hasS (ls : List V) (s : List UInt8) : Bool := ls.any fun u => nmV u == s
def idxI (s : List UInt8) : List V → Int → Int
  | [], _ => -1
  | u :: r, i => if nmV u == s then i else idxI s r (i + 1)
def findS (s : List UInt8) : List V → List UInt8 × Bool
  | [] => ([], false)
  | u :: r => if nmV u == s then (dtV u, true) else findS s r
def place (x n : Int) : Int := if decide (x.tmod n < 0) then IntKind.i64.wrap (x.tmod n + n) else x.tmod n
def CLs (ls : List V) : Prop := ∀ u ∈ ls, ∃ n d, u = .agg [.str n, .str d]
def b21 : List V → (V → Prop) → Prop
  | [.int .i64 n], k => (0 ≤ n ∧ n ≤ 4611686018427387904) ∧ ∀ x : Int, x = fillI n → k (.int .i64 x)
  | _, _ => False
def sp21 : SpT := spNil
def b14 : List V → (V → Prop) → Prop
  | [.int .i64 x, .int .i64 n], k => (n ≠ 0) ∧ k (.int .i64 (place x n))
  | _, _ => False
def sp14 : SpT := spNil
def b23 : List V → (V → Prop) → Prop
  | [.list false vs], k => (BLs vs ∧ 4 ≤ vs.length) ∧ ∀ x : Int, x = numS vs → k (.int .i64 x)
  | _, _ => False
def sp23 : SpT := spNil
def b24 : List V → (V → Prop) → Prop
  | [.list false vs], k => (BLs vs ∧ 4 ≤ vs.length) ∧ ∀ x : Int, x = numS vs → k (.int .i64 x)
  | _, _ => False
def sp24 : SpT := spNil
def b27 : List V → (V → Prop) → Prop
  | [.int .i64 n], k => (0 ≤ n ∧ n < 4294967296) ∧ k (.list false (fourV n))
  | _, _ => False
def sp27 : SpT := spNil
def b13 : List V → (V → Prop) → Prop
  | [.list false vs], k => (BLs vs ∧ vs.length ≤ 1000000) ∧ k (.list false vs)
  | _, _ => False
def sp13 : SpT := spNil
def b29 : List V → (V → Prop) → Prop
  | [.agg [.str n, .str d], .dptr (.str x)], k => k (.bool (n == x))
  | _, _ => False
def sp29 : SpT := spNil
def b31 : List V → (V → Prop) → Prop
  | [.agg [.str n, .str d], .dptr (.str x)], k => k (.bool (n == x))
  | _, _ => False
def sp31 : SpT := spNil
def sp22 : SpT := spNil
def h22 : HBody := fun heads rest H1 id k => match heads, rest with
  | [.list true vs], [.int .i64 n] => (BLs vs ∧ vs.length ≤ 1000000000) ∧ k (.sl id (vs.length + 4)) [(id, ⟨some 5, false, .agg (vs ++ fourV n)⟩)]
  | [.sl c len], [.int .i64 n] => match H1 c with
    | some ⟨some 5, false, .agg rows⟩ => (len = rows.length ∧ BLs rows ∧ rows.length ≤ 1000000000) ∧ k (.sl c (rows.length + 4)) [(c, ⟨some 5, false, .agg (rows ++ fourV n)⟩)]
    | _ => False
  | _, _ => False
end GoL
