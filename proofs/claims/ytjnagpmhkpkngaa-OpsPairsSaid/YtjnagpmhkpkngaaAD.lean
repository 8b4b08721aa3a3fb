/- A part of the proof: a logic for programs of this kind, proved sound over the model; contracts of functions; plain laws. -/
import Derived.Test.YtjnagpmhkpkngaaTD
import Derived.Test.YtjnagpmhkpkngaaProg
import Derived.KernelRfl
set_option linter.all false
open Go Go.Proofs
namespace GoL
set_option linter.unusedVariables false
set_option linter.unusedSimpArgs false
def tagV : V → Int
  | .agg (.int _ t :: _) => t
  | _ => 0
def numV : V → Int
  | .agg [_, .int _ n, _] => n
  | _ => 0
def kidsV : V → List V
  | .agg [_, _, .list _ l] => l
  | _ => []
/-- all from i on, by steps of d -/
def AllS (p : Int → Prop) (n d i : Int) : Prop := ∀ m : Nat, i + m * d < n → p (i + m * d)
noncomputable def dec (p : Prop) : Bool := @decide p (Classical.propDecidable p)
def srcV (v : V) : Bool := srcB (tagV v) (numV v)
def plainV (v : V) : Bool := plainB (tagV v) (numV v) (kidsV v)
def listP (ls : List V) (i : Int) : Prop := (!plainV (getV ls i)) = false ∧ (!srcV (getV ls i)) = false
def ent35 : List V → List Blk → KK → Prop
  | [.list false ls, .int .i64 n, .int .i64 i], [], K => n = ls.length ∧ i = 0 ∧ ls.length ≤ 9223372036854775807 ∧ (∀ u ∈ ls, Typed Try.prog reachBytes 28 u) ∧ (AllS (listP ls) ls.length 1 0 → K (.exit 0) 1000 [] []) ∧ (¬ AllS (listP ls) ls.length 1 0 → K .ret 1000 [(2, .gd true (.bool false))] [])
  | _, _, _ => False
def ls35 : LsT := lsAdd 0 1000 [6, 7, 8] [] ent35 noLs
def sp35 : SpT := spAdd 36 b36 (spAdd 37 b37 (spNil))
def ends35_0 : EndsL := ⟨1000, [6, 7, 8], [], 0, 1000, [], [], [2], []⟩
def b39 : List V → (V → Prop) → Prop
  | [.agg [.int .i64 t, .int .i64 n, .list false ls]], k => k (.bool (srcB t n))
  | _, _ => False
def b40 : List V → (V → Prop) → Prop
  | [.agg [.int .i64 t, .int .i64 n, .list false ls]], k => k (.bool (regB t n))
  | _, _ => False
def sp39 : SpT := spAdd 40 b40 (spNil)
def sp40 : SpT := spNil
def srcP (ls : List V) (i : Int) : Prop := (!srcV (getV ls i)) = false
def ent33 : List V → List Blk → KK → Prop
  | [.ptr 1000 0 [], .int .i64 i], [⟨none, false, .agg [.int .i64 t, .int .i64 n, .list false ls]⟩], K => i = 0 ∧ (∀ u ∈ ls, Typed Try.prog reachBytes 28 u) ∧ (AllS (srcP ls) ls.length 1 0 → K (.exit 1) 1001 [(3, .ptr 1000 0 [])] [(1000, ⟨none, false, .agg [.int .i64 t, .int .i64 n, .list false ls]⟩)]) ∧ (¬ AllS (srcP ls) ls.length 1 0 → K .ret 1001 [(4, .gd true (.bool false))] [])
  | _, _, _ => False
def ls33 : LsT := lsAdd 1 1001 [3, 5] [1000] ent33 noLs
/-- the reference's pairs -/
def pairR (ls : List V) (i : Int) : Prop := (tagV (getV ls i) = 1 ∨ tagV (getV ls i) = 2) ∧ tagV (getV ls (i + 1)) = 5 ∧ numV (getV ls (i + 1)) ≠ 0 ∧ AllS (fun k => ¬ (tagV (getV ls k) = tagV (getV ls i) ∧ numV (getV ls k) = numV (getV ls i))) i 2 0
def inK (ls : List V) : Prop := (ls.length : Int).tmod 2 = 0 ∧ AllS (pairR ls) ls.length 2 0
def b41 : List V → (V → Prop) → Prop
  | [.list false ls], k => (∀ u ∈ ls, Typed Try.prog reachBytes 28 u) ∧ k (.bool (dec (inK ls)))
  | _, _ => False
def sp33 : SpT := spAdd 39 b39 (spAdd 40 b40 (spAdd 41 b41 (spNil)))
def ends33_0 : EndsL := ⟨1001, [3, 5], [1000], 1, 1001, [3], [1000], [4], []⟩
def chk0 (t n : Int) (ls : List V) : Bool := if decide (t < 0) then false else if decide (t > 7) then false else if decide ((ls.length : Int) > 0) then false else if (t == 1) then (if decide (n ≥ -576460752303423488) then decide (n < 576460752303423488) else false) else (if decide (n ≥ 0) then decide (n < 268435456) else false)
def b32 : List V → (V → Prop) → Prop
  | [.agg [.int .i64 t, .int .i64 n, .list false ls]], k => (t == 7) = false ∧ k (.bool (chk0 t n ls))
  | _, _ => False
def subOk (ls : List V) (i : Int) : Prop := tagV (getV ls i) ≠ 7 ∧ chk0 (tagV (getV ls i)) (numV (getV ls i)) (kidsV (getV ls i)) = true
def ent32 : List V → List Blk → KK → Prop
  | [.ptr 1000 0 [], .int .i64 i], [⟨none, false, .agg [.int .i64 t, .int .i64 n, .list false ls]⟩], K => i = 0 ∧ (∀ u ∈ ls, Typed Try.prog reachBytes 28 u) ∧ (AllS (subOk ls) ls.length 1 0 → K (.exit 1) 1001 [(1, .ptr 1000 0 [])] [(1000, ⟨none, false, .agg [.int .i64 t, .int .i64 n, .list false ls]⟩)]) ∧ (¬ AllS (subOk ls) ls.length 1 0 → K .ret 1001 [(2, .gd true (.bool false))] [])
  | _, _, _ => False
def ls32 : LsT := lsAdd 1 1001 [1, 3] [1000] ent32 noLs
def sp32 : SpT := spAdd 32 b32 (spNil)
def ends32_0 : EndsL := ⟨1001, [1, 3], [1000], 1, 1001, [1], [1000], [2], []⟩
def diffP (ls : List V) (i k : Int) : Prop := ¬ (tagV (getV ls k) = tagV (getV ls i) ∧ numV (getV ls k) = numV (getV ls i))
def ent41i : List V → List Blk → KK → Prop
  | [.list false ls, .int .i64 i, .int .i64 k], [], K => k = 0 ∧ 0 ≤ i ∧ i < ls.length ∧ ls.length ≤ 9223372036854775807 ∧ (∀ u ∈ ls, Typed Try.prog reachBytes 28 u) ∧ (AllS (diffP ls i) i 2 0 → K (.exit 2) 1000 [(0, .list false ls), (3, .int .i64 i)] []) ∧ (¬ AllS (diffP ls i) i 2 0 → K .ret 1000 [(2, .gd true (.bool false))] [])
  | _, _, _ => False
def ls41i : LsT := lsAdd 2 1000 [0, 3, 4] [] ent41i noLs
def ent41 : List V → List Blk → KK → Prop
  | [.list false ls, .int .i64 i], [], K => i = 0 ∧ (ls.length : Int).tmod 2 = 0 ∧ (∀ u ∈ ls, Typed Try.prog reachBytes 28 u) ∧ (AllS (pairR ls) ls.length 2 0 → K (.exit 0) 1000 [] []) ∧ (¬ AllS (pairR ls) ls.length 2 0 → K .ret 1000 [(2, .gd true (.bool false))] [])
  | _, _, _ => False
def ls41 : LsT := lsAdd 0 1000 [0, 3] [] ent41 ls41i
def okO (ls : List V) (i : Int) : Prop := plainV (getV ls i) = true ∧ (i.tmod 2 = 1 → tagV (getV ls i) = 5 ∧ numV (getV ls i) > 0) ∧ (i.tmod 2 ≠ 1 → (tagV (getV ls i) = 1 ∨ tagV (getV ls i) = 2) ∧ AllS (diffP ls i) i 2 0)
def inO (ls : List V) : Prop := (ls.length : Int).tmod 2 = 0 ∧ AllS (okO ls) ls.length 1 0
def ent34i : List V → List Blk → KK → Prop
  | [.ptr 1000 0 [], .int .i64 i, .ptr 1005 0 [], .int .i64 k, .list false l2, .int .i64 m, .int .i64 j], [⟨none, false, .agg [.int .i64 t, .int .i64 n, .list false ls]⟩, ⟨none, false, .agg [.int .i64 p, .int .i64 q, .list false lq]⟩], K => k = 0 ∧ 0 ≤ i ∧ i < ls.length ∧ ls.length ≤ 9223372036854775807 ∧ (∀ u ∈ ls, Typed Try.prog reachBytes 28 u) ∧ tagV (getV ls i) = p ∧ numV (getV ls i) = q ∧ (AllS (diffP ls i) i 2 0 → K (.exit 3) 1006 [(1, .ptr 1000 0 []), (12, .list false l2), (13, .int .i64 m), (14, .int .i64 j)] [(1000, ⟨none, false, .agg [.int .i64 t, .int .i64 n, .list false ls]⟩)]) ∧ (¬ AllS (diffP ls i) i 2 0 → K .ret 1006 [(2, .gd true (.bool false))] [])
  | _, _, _ => False
def ls34i : LsT := lsAdd 3 1006 [1, 3, 4, 5, 12, 13, 14] [1000, 1005] ent34i noLs
def ent34 : List V → List Blk → KK → Prop
  | [.ptr 1000 0 [], .list false l2, .int .i64 m, .int .i64 i], [⟨none, false, .agg [.int .i64 t, .int .i64 n, .list false ls]⟩], K => l2 = ls ∧ m = ls.length ∧ i = 0 ∧ (∀ u ∈ ls, Typed Try.prog reachBytes 28 u) ∧ ls.length ≤ 9223372036854775807 ∧ (AllS (okO ls) ls.length 1 0 → K (.exit 0) 1001 [] []) ∧ (¬ AllS (okO ls) ls.length 1 0 → K .ret 1001 [(2, .gd true (.bool false))] [])
  | _, _, _ => False
def ls34 : LsT := lsAdd 0 1001 [1, 12, 13, 14] [1000] ent34 ls34i
def sp41 : SpT := spNil
def sp34 : SpT := spAdd 36 b36 (spNil)
def ends41_0 : EndsL := ⟨1000, [0, 3], [], 0, 1000, [], [], [2], []⟩
def ends41_1 : EndsL := ⟨1000, [0, 3, 4], [], 2, 1000, [0, 3], [], [2], []⟩
def ends34_0 : EndsL := ⟨1001, [1, 12, 13, 14], [1000], 0, 1001, [], [], [2], []⟩
def ends34_1 : EndsL := ⟨1006, [1, 3, 4, 5, 12, 13, 14], [1000, 1005], 3, 1006, [1, 12, 13, 14], [1000], [2], []⟩
noncomputable def ck32 (t n : Int) (ls : List V) : Bool := if (t == 7) then (if dec (AllS (subOk ls) ls.length 1 0) then (if (n == 0) then decide ((ls.length : Int) ≤ 40) else false) else false) else chk0 t n ls
noncomputable def letB (c t n : Int) (ls : List V) : Bool := if (c == 117) then (t == 0) else if (c == 97) then (if (t == 2) then decide (n > 0) else false) else if (c == 115) then srcB t n else if (c == 100) then regB t n else if (c == 120) then (if regB t n then (t == 3) else false) else if (c == 121) then (if regB t n then (t == 4) else false) else if (c == 108) then (if (t == 5) then decide (n > 0) else false) else if (c == 102) then (t == 5) else if (c == 80) then (if (t == 7) then dec (inK ls) else false) else (if dec (AllS (srcP ls) ls.length 1 0) then (t == 7) else false)
end GoL
