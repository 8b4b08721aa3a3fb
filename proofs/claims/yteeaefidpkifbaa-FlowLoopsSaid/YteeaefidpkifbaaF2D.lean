/- A part of the proof: a logic proved sound over the model; contracts; plain laws. -/
import Derived.Test.YteeaefidpkifbaaF1P
import Derived.Test.YteeaefidpkifbaaProg
import Derived.KernelRfl
set_option linter.all false
open Go Go.Proofs
namespace GoL
def sD (l : List V) : Nat → List V → Int → List V × Int × Bool
  | 0, _, i => ([], i, false)
  | k + 1, out, i =>
    if uI l i = false then ([], i, false)
    else if (opA l (i + 2) != 1) = true then ([], i + 2, false)
    else if (if decide (uG (sA (getV l (i + 1))) 2 < 0) = true then true else decide (uG (sA (getV l (i + 1))) 2 ≥ 16)) = true then ([], i + 1, false)
    else if (uB l (i + 3)).2 = false then ([], (uB l (i + 3)).1, false)
    else if (sE (getV l (uB l (i + 3)).1) != 3) = true then sD l k (out ++ [.agg [.int .i64 i, .int .i64 (uB l (i + 3)).1, .int .i64 (uG (sA (getV l (i + 2))) 0), .int .i64 (uG (sA (getV l (i + 1))) 2)]]) (uB l (i + 3)).1
    else if decide ((uB l (i + 3)).1 < (l.length : Int) - 1) = true then ([], (uB l (i + 3)).1, false)
    else (out ++ [.agg [.int .i64 i, .int .i64 (uB l (i + 3)).1, .int .i64 (uG (sA (getV l (i + 2))) 0), .int .i64 (uG (sA (getV l (i + 1))) 2)]], 0, true)
def uY (l : List V) : List V × Int × Bool := sD l (l.length + 1) [] 0
def tT (xs : List V) : Prop := ∀ v ∈ xs, ∃ a b c d : Int, v = .agg [.int .i64 a, .int .i64 b, .int .i64 c, .int .i64 d]
def sp9 : SpT := zI 17 b17 (zI 18 b18 (zI 19 b19 (zI 20 b20 zM)))
def b9 : List V → (V → Prop) → Prop
  | [.list false l], k => uC l ∧ ∀ p, p = uY l → k (.tup [.list false p.1, .int .i64 p.2.1, .bool p.2.2])
  | _, _ => False
def ent9 : List V → List Blk → KK → Prop
  | [.list false l, .nils, .int .i64 i], [], K => uC l ∧ i = 0 ∧ (∀ (j : Int) (out : List V), uY l = ([], j, false) → K .ret 1006 [(2, .nils), (3, .int .i64 j), (4, .gd true (.bool false))] [(1005, ⟨some 37, false, .agg out⟩)]) ∧ (∀ (out : List V) (j : Int), tT out → uY l = (out, j, true) → K .ret 1006 [(2, .sl 1005 out.length), (3, .int .i64 j), (4, .gd true (.bool true))] [(1005, ⟨some 37, false, .agg out⟩)])
  | _, _, _ => False
def ls9 : LsT := lsAdd 0 1005 [0, 5, 6] [] ent9 noLs
def sp23 : SpT := zM
def ends9_0 : EndsL := ⟨1006, [0, 5, 6], [1005], 0, 1006, [], [], [2, 3, 4], [1005]⟩
end GoL
