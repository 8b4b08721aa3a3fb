/- A part of the proof: a logic for programs of this kind, proved sound over the model; contracts of functions; plain laws. -/
import Derived.Test.YtjnagpmhkpkngaaGE
import Derived.Test.YtjnagpmhkpkngaaProg
import Derived.KernelRfl
set_option linter.all false
open Go Go.Proofs
namespace GoL
set_option linter.unusedVariables false
set_option linter.unusedSimpArgs false
def sigS (op : Int) : List UInt8 := if (op == 1) then [117] else if (op == 10) then [117] else if (op == 13) then [117] else if (op == 14) then [117] else if (op == 2) then [97, 97, 117] else if (op == 4) then [115, 100] else if (op == 5) then [108] else if (op == 6) then [117, 108] else if (op == 7) then [117, 108] else if (op == 8) then [117, 108, 117] else if (op == 9) then [117, 117] else if (op == 12) then [117, 117] else if (op == 16) then [117, 117] else if (op == 15) then [121] else if (op == 46) then [121] else if (op == 47) then [121] else if (op == 17) then [115, 115, 100] else if (op == 18) then [83, 100] else if (op == 19) then [115, 100, 100] else if (op == 20) then [115, 117, 100] else if (op == 21) then [108, 115] else if (op == 22) then [108, 115] else if (op == 23) then [108, 115] else if (op == 24) then [108, 115] else if (op == 25) then [108, 115] else if (op == 26) then [108, 115] else if (op == 27) then [108, 115] else if (op == 28) then [108, 115, 117] else if (op == 29) then [108, 115, 115] else if (op == 30) then [108, 115, 115] else if (op == 31) then [108, 115, 115] else if (op == 32) then [108, 115, 115] else if (op == 33) then [115, 108, 80] else if (op == 34) then [100, 100] else if (op == 35) then [102, 117, 117, 115, 115, 100] else if (op == 36) then [102, 117, 115, 100] else if (op == 37) then [102, 117, 115, 115, 100] else if (op == 38) then [108, 115, 117, 120] else if (op == 39) then [108, 120, 117, 100] else if (op == 40) then [108, 120, 117, 117, 100] else if (op == 41) then [120, 117, 100] else if (op == 42) then [108, 120, 117] else if (op == 43) then [117, 83, 100] else if (op == 44) then [117, 83, 100] else if (op == 45) then [121, 108] else if (op == 48) then [115, 115] else if (op == 49) then [115] else if (op == 50) then [115] else []
def endS (op : Int) : Bool := if (op == 2) then true else if (op == 3) then true else if (op == 5) then true else if (op == 7) then true else if (op == 8) then true else if (op == 11) then true else if (op == 33) then true else if (op == 48) then true else if (op == 49) then true else if (op == 50) then true else if (op == 51) then true else false
def sigsL : List (List UInt8) := [[117], [97, 97, 117], [], [115, 100], [108], [117, 108], [117, 108], [117, 108, 117], [117, 117], [117], [], [117, 117], [117], [117], [121], [117, 117], [115, 115, 100], [83, 100], [115, 100, 100], [115, 117, 100], [108, 115], [108, 115], [108, 115], [108, 115], [108, 115], [108, 115], [108, 115], [108, 115, 117], [108, 115, 115], [108, 115, 115], [108, 115, 115], [108, 115, 115], [115, 108, 80], [100, 100], [102, 117, 117, 115, 115, 100], [102, 117, 115, 100], [102, 117, 115, 115, 100], [108, 115, 117, 120], [108, 120, 117, 100], [108, 120, 117, 117, 100], [120, 117, 100], [108, 120, 117], [117, 83, 100], [117, 83, 100], [121, 108], [121], [121], [115, 115], [115], [115], []]
def namesL : List (List UInt8) := [[108, 97, 98, 101, 108], [102, 117, 110, 99, 95, 105, 110, 102, 111], [101, 110, 100], [109, 111, 118, 101], [106, 117, 109, 112], [99, 97, 108, 108], [99, 97, 108, 108, 95, 111, 110, 108, 121], [99, 97, 108, 108, 95, 108, 97, 115, 116], [99, 97, 108, 108, 95, 101, 120, 116], [99, 97, 108, 108, 95, 102, 117, 110], [114, 101, 116, 117, 114, 110], [97, 108, 108, 111, 99, 97, 116, 101], [100, 101, 97, 108, 108, 111, 99, 97, 116, 101], [116, 114, 105, 109], [105, 110, 105, 116], [116, 101, 115, 116, 95, 104, 101, 97, 112], [112, 117, 116, 95, 108, 105, 115, 116], [112, 117, 116, 95, 116, 117, 112, 108, 101], [103, 101, 116, 95, 108, 105, 115, 116], [103, 101, 116, 95, 101, 108, 101, 109, 101, 110, 116], [105, 115, 95, 105, 110, 116], [105, 115, 95, 97, 116, 111, 109], [105, 115, 95, 110, 105, 108], [105, 115, 95, 99, 111, 110, 115], [105, 115, 95, 116, 117, 112, 108, 101], [105, 115, 95, 98, 105, 110], [105, 115, 95, 102, 117, 110], [116, 101, 115, 116, 95, 97, 114, 105, 116, 121], [105, 115, 95, 108, 116], [105, 115, 95, 103, 101], [105, 115, 95, 101, 113], [105, 115, 95, 110, 101], [115, 101, 108, 101, 99, 116], [115, 119, 97, 112], [103, 99, 95, 111, 112], [98, 105, 102, 49], [98, 105, 102, 50], [98, 115, 95, 115, 116, 97, 114, 116], [98, 115, 95, 105, 110, 116], [98, 115, 95, 98, 105, 110], [98, 115, 95, 114, 101, 115, 116], [98, 115, 95, 116, 97, 105, 108], [98, 115, 95, 109, 97, 107, 101], [109, 97, 107, 101, 95, 102, 117, 110], [116, 114, 121], [116, 114, 121, 95, 101, 110, 100], [116, 114, 121, 95, 99, 97, 115, 101], [114, 97, 105, 115, 101], [98, 97, 100, 109, 97, 116, 99, 104], [99, 97, 115, 101, 95, 101, 110, 100], [105, 102, 95, 101, 110, 100]]
def sigsV : List V := sigsL.map V.str
def namesV : List V := namesL.map V.str
def sig9 (op : Int) : List UInt8 := if decide (op < 1) then [] else if decide (op > 51) then [] else sigsL.getD (op - 1).toNat []
def name9 (op : Int) : List UInt8 := if decide (op < 1) then [] else if decide (op > 51) then [] else namesL.getD (op - 1).toNat []
def plainB (t n : Int) (ls : List V) : Bool := if (t == 1) then (if ((ls.length : Int) == 0) then (if decide (n ≥ -576460752303423488) then decide (n < 576460752303423488) else false) else false) else if decide (t ≥ 0) then (if decide (t < 7) then (if ((ls.length : Int) == 0) then (if decide (n ≥ 0) then decide (n ≤ 268435455) else false) else false) else false) else false
def regB (t n : Int) : Bool := if (t == 3) then (if decide (n < 16) then true else if (t == 4) then decide (n < 12) else false) else if (t == 4) then decide (n < 12) else false
def srcB (t n : Int) : Bool := if (t == 1) then true else if (t == 2) then true else if (t == 6) then true else regB t n
def fit1 (c t n : Int) (ls : List V) : Bool := if (!plainB t n ls) then false else (if (c == 117) then (t == 0) else if (c == 97) then (if (t == 2) then decide (n > 0) else false) else if (c == 115) then srcB t n else if (c == 100) then regB t n else if (c == 120) then (if (t == 3) then regB t n else false) else if (c == 121) then (if (t == 4) then regB t n else false) else if (c == 108) then (if (t == 5) then decide (n > 0) else false) else (t == 5))
def fitV (c : UInt8) : V → Bool
  | .agg [.int _ t, .int _ n, .list _ ls] => fit1 c.toNat t n ls
  | _ => false
def fitF : List UInt8 → List V → Bool
  | c :: s, v :: l => if fitV c v then fitF s l else false
  | _, _ => true
def fitsB (op : Int) (xs : List V) : Bool := if decide (op < 1) then false else if decide (op > 51) then false else if ((xs.length : Int) != ((sigS op).length : Int)) then false else fitF (sigS op) xs
def place (x n : Int) : Int := if decide (x.tmod n < 0) then IntKind.i64.wrap (x.tmod n + n) else x.tmod n
def iV (t n : Int) : V := .agg [.int .i64 t, .int .i64 n, .list false []]
def b8 : List V → (V → Prop) → Prop
  | [.int .i64 op], k => k (.str (sigS op))
  | _, _ => False
def sp8 : SpT := spNil
def b12 : List V → (V → Prop) → Prop
  | [.int .i64 op], k => k (.bool (endS op))
  | _, _ => False
def sp12 : SpT := spNil
def b13 : List V → (V → Prop) → Prop
  | [.int .i64 op], k => k (.bool (endS op))
  | _, _ => False
def sp13 : SpT := spNil
def b28 : List V → (V → Prop) → Prop
  | [], k => k (.list false sigsV)
  | _, _ => False
def sp28 : SpT := spNil
def b29 : List V → (V → Prop) → Prop
  | [], k => k (.list false namesV)
  | _, _ => False
def sp29 : SpT := spNil
def b9 : List V → (V → Prop) → Prop
  | [.int .i64 op], k => k (.str (sig9 op))
  | _, _ => False
def sp9 : SpT := spAdd 28 b28 (spNil)
def b11 : List V → (V → Prop) → Prop
  | [.int .i64 op], k => k (.str (name9 op))
  | _, _ => False
def sp11 : SpT := spAdd 29 b29 (spNil)
def b36 : List V → (V → Prop) → Prop
  | [.agg [.int .i64 t, .int .i64 n, .list false ls]], k => k (.bool (plainB t n ls))
  | _, _ => False
def sp36 : SpT := spNil
def b38 : List V → (V → Prop) → Prop
  | [.agg [.int .i64 t, .int .i64 n, .list false ls]], k => k (.bool (regB t n))
  | _, _ => False
def sp38 : SpT := spNil
def b37 : List V → (V → Prop) → Prop
  | [.agg [.int .i64 t, .int .i64 n, .list false ls]], k => k (.bool (srcB t n))
  | _, _ => False
def sp37 : SpT := spAdd 38 b38 (spNil)
def b16 : List V → (V → Prop) → Prop
  | [.int .i64 n], k => k (.agg [.int .i64 1, .int .i64 n, .list false []])
  | _, _ => False
def sp16 : SpT := spNil
def b17 : List V → (V → Prop) → Prop
  | [.int .i64 n], k => k (.agg [.int .i64 5, .int .i64 n, .list false []])
  | _, _ => False
def sp17 : SpT := spNil
def b21 : List V → (V → Prop) → Prop
  | [.int .i64 n], k => k (.agg [.int .i64 3, .int .i64 n, .list false []])
  | _, _ => False
def sp21 : SpT := spNil
def b27 : List V → (V → Prop) → Prop
  | [.int .i64 n], k => k (.agg [.int .i64 0, .int .i64 n, .list false []])
  | _, _ => False
def sp27 : SpT := spNil
def b18 : List V → (V → Prop) → Prop
  | [.int .i64 x, .int .i64 n], k => (n ≠ 0) ∧ k (.int .i64 (place x n))
  | _, _ => False
def sp18 : SpT := spNil
def b20 : List V → (V → Prop) → Prop
  | [.int .i64 op, .list false xs], k => ((∀ v, List.Mem v xs → V.sz v = 3) ∧ xs.length ≤ 1000) ∧ k (.agg [.int .i64 op, .list false xs])
  | _, _ => False
def sp20 : SpT := spNil
def b30 : List V → (V → Prop) → Prop
  | [.int .u8 c, .agg [.int .i64 t, .int .i64 n, .list false ls]], k => ((c == 83) = false ∧ (c == 80) = false) ∧ k (.bool (fit1 c t n ls))
  | _, _ => False
def sp30 : SpT := spAdd 36 b36 (spAdd 37 b37 (spAdd 38 b38 (spNil)))
def nameT (op : Int) : List UInt8 := name9 op
def sp10 : SpT := spNil
def w10 (op : Int) (r : V) : Prop := wC Try.prog sp10 14 noHint (prsOf []) noLs 0 (bodyOf Try.f10) 1000 (initL [.int .i64 op] 0) [] (finK Try.prog none Try.f10.results.toList r)
def b10 : List V → (V → Prop) → Prop
  | [.int .i64 op], k => (-2 ≤ op ∧ op ≤ 54) ∧ k (.str (name9 op))
  | _, _ => False
def fitOk : List UInt8 → List V → Prop
  | c :: r, v :: l => (((c.toNat : Int) == 83) = false ∧ ((c.toNat : Int) == 80) = false ∧ ∃ t n ls, v = .agg [.int .i64 t, .int .i64 n, .list false ls]) ∧ fitOk r l
  | [], [] => True
  | _, _ => False
def b19 : List V → (V → Prop) → Prop
  | [.agg [.int .i64 op, .list false xs]], k => (xs.length = (sigS op).length → fitOk (sigS op) xs) ∧ k (.bool (fitsB op xs))
  | _, _ => False
def ent19 : List V → List Blk → KK → Prop
  | [.str sg, .list false xs, .int .i64 n, .int .i64 i], [], K => n = xs.length ∧ xs.length ≤ 9223372036854775807 ∧ xs.length = sg.length ∧ fitOk sg xs ∧ i = 0 ∧ (fitF sg xs = true → K (.exit 0) 1000 [] []) ∧ (fitF sg xs = false → K .ret 1000 [(2, .gd true (.bool false))] [])
  | _, _, _ => False
def ls19 : LsT := lsAdd 0 1000 [3, 26, 27, 28] [] ent19 noLs
def sp19 : SpT := spAdd 8 b8 (spAdd 30 b30 (spNil))
def ends19_0 : EndsL := ⟨1000, [3, 26, 27, 28], [], 0, 1000, [], [], [2], []⟩
def sp14 : SpT := spAdd 8 b8 (spAdd 10 b10 (spAdd 12 b12 (spAdd 16 b16 (spAdd 19 b19 (spAdd 20 b20 (spAdd 21 b21 (spNil)))))))
def tabOk (op : Int) : Prop := -2 ≤ op ∧ op ≤ 54
def b14 : List V → (V → Prop) → Prop
  | [], k => k (.bool true)
  | _, _ => False
def ent3i : List V → List Blk → KK → Prop
  | [.int .i64 op, .int .i64 k], [], K => tabOk op ∧ 1 ≤ k ∧ K (.exit 2) 1000 [(1, .int .i64 op)] []
  | _, _, _ => False
def ls3i : LsT := lsAdd 2 1000 [1, 2] [] ent3i noLs
def ent3 : List V → List Blk → KK → Prop
  | [.int .i64 op], [], K => op = -2 ∧ K (.exit 0) 1000 [] []
  | _, _, _ => False
def ls3 : LsT := lsAdd 0 1000 [1] [] ent3 ls3i
def sp3 : SpT := spAdd 8 b8 (spAdd 9 b9 (spAdd 10 b10 (spAdd 11 b11 (spAdd 12 b12 (spAdd 13 b13 (spAdd 14 b14 (spNil)))))))
def ends3_0 : EndsL := ⟨1000, [1], [], 0, 1000, [], [], [0], []⟩
def ends3_1 : EndsL := ⟨1000, [1, 2], [], 2, 1000, [1], [], [0], []⟩
end GoL
