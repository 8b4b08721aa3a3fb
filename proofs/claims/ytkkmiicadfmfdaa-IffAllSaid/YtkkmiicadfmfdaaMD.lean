/- A part of the proof: a logic for programs of this kind, proved sound over the model; contracts of functions; plain laws. -/
import Derived.Test.YtkkmiicadfmfdaaLD
import Derived.Test.YtkkmiicadfmfdaaProg
import Derived.KernelRfl
set_option linter.all false
open Go Go.Proofs
namespace GoL
set_option linter.unusedVariables false
set_option linter.unusedSimpArgs false
def chV (n d : List UInt8) : V := .agg [.str n, .str d]
def badB (vs : List V) (n : Nat) : Bool := ((vs.drop n).take (fillI n).toNat).map byteV != ((List.replicate (fillI n).toNat (V.int .u8 0)).map byteV)
def nxtS (vs : List V) : List V := (vs.drop 8).drop (numS (vs.drop 4) + fillI (numS (vs.drop 4))).toNat
def chkS (vs : List V) : V := chV ((vs.take 4).map byteV) (((vs.drop 8).take (numS (vs.drop 4)).toNat).map byteV)
def errS (acc vs : List V) : Int :=
  if vs.length < 8 then 3 else
  if numS (vs.drop 4) + fillI (numS (vs.drop 4)) > ((vs.drop 8).length : Int) then 3 else
  if namedS ((vs.take 4).map byteV) = false then 4 else
  if badB (vs.drop 8) (numS (vs.drop 4)).toNat = true then 4 else
  if hasS acc ((vs.take 4).map byteV) = true then 6 else 0
def parseF : Nat → List V → List V → List V × Int
  | 0, acc, _ => (acc, 0)
  | k + 1, acc, vs => if vs.length = 0 then (acc, 0) else if errS acc vs = 0 then parseF k (acc ++ [chkS vs]) (nxtS vs) else ([], errS acc vs)
def parseR (acc vs : List V) : List V × Int := parseF vs.length acc vs
def hdOk (vs : List V) : Bool := if (vs.take 4).map byteV != [70, 79, 82, 49] then false else if ((vs.drop 8).take 4).map byteV != [66, 69, 65, 77] then false else numS (vs.drop 4) == (vs.length : Int) - 8
def parseS (vs : List V) : List V × Int := if (vs.length : Int) > 65536 then ([], 2) else if (vs.length : Int) < 12 then ([], 3) else if hdOk vs = false then ([], 5) else parseR [] (vs.drop 12)
def ent28s : List V → List Blk → KK → Prop
  | [.sl 0 len, .fn 31 [.dptr (.str s)], .int .i64 n, .int .i64 i], [⟨some 36, false, .agg ls⟩], K => len = ls.length ∧ n = ls.length ∧ ls.length ≤ 9223372036854775807 ∧ i = 0 ∧ CLs ls ∧ (idxI s ls 0 = -1 → K (.exit 0) 1000 [] [(0, ⟨some 36, false, .agg ls⟩)]) ∧ (idxI s ls 0 ≠ -1 → K .ret 1000 [(4, .int .i64 (idxI s ls 0))] [(0, ⟨some 36, false, .agg ls⟩)])
  | _, _, _ => False
def ls28s : LsT := lsAdd 0 1000 [0, 1, 7, 8] [0] ent28s noLs
def h28 : HBody := fun heads rest H1 id k => match heads, rest with
  | [.sl c len], [.fn 31 [.dptr (.str s)]] => match H1 c with
    | some ⟨some 36, false, .agg ls⟩ => (len = ls.length ∧ CLs ls) ∧ k (.int .i64 (idxI s ls 0)) [(c, ⟨some 36, false, .agg ls⟩)]
    | _ => False
  | _, _ => False
def h30 : HBody := fun heads rest H1 id k => match heads, rest with
  | [.sl c len], [.fn 31 [.dptr (.str s)]] => match H1 c with
    | some ⟨some 36, false, .agg ls⟩ => (len = ls.length ∧ CLs ls) ∧ k (.bool (hasS ls s)) [(c, ⟨some 36, false, .agg ls⟩)]
    | _ => False
  | _, _ => False
def h20 : HBody := fun heads rest H1 id k => match heads, rest with
  | [.sl c len], [.str s] => match H1 c with
    | some ⟨some 36, false, .agg ls⟩ => (len = ls.length ∧ CLs ls) ∧ k (.bool (hasS ls s)) [(c, ⟨some 36, false, .agg ls⟩)]
    | _ => False
  | _, _ => False
def sp30s : SpT := shAdd 28 1 h28 spNil
def sp20s : SpT := shAdd 30 1 h30 spNil
def sp11 : SpT := shAdd 20 1 h20 (spAdd 19 b19 (spAdd 21 b21 (spAdd 23 b23 spNil)))
def ent11 : List V → List Blk → KK → Prop
  | [.list false vs, .nils], [], K => BLs vs ∧ vs.length ≤ 65536 ∧ ((parseR [] vs).2 = 0 → K (.exit 1) 1035 [(4, .sl 1034 (parseR [] vs).1.length)] [(1034, ⟨some 36, false, .agg (parseR [] vs).1⟩)]) ∧ ((parseR [] vs).2 ≠ 0 → K .ret 1035 [(2, .nils), (3, .int .i64 (parseR [] vs).2)] [])
  | _, _, _ => False
def ls11 : LsT := lsAdd 1 1034 [0, 4] [] ent11 noLs
def ends28s : EndsL := ⟨1000, [0, 1, 7, 8], [0], 0, 1000, [], [0], [4], [0]⟩
def ends11_0 : EndsL := ⟨1035, [0, 4], [1034], 1, 1035, [4], [1034], [2, 3], []⟩
def b11 : List V → (V → Prop) → Prop
  | [.list false vs], k => BLs vs ∧ ∀ (l : List V) (e : Int), parseS vs = (l, e) → k (.tup [.list false l, .int .i64 e])
  | _, _ => False
end GoL
