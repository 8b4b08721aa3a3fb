/- A part of the proof: a logic for programs of this kind, proved sound over the model; contracts of functions; plain laws. -/
import Derived.Test.YtjnagpmhkpkngaaAD
import Derived.Test.YtjnagpmhkpkngaaProg
import Derived.KernelRfl
set_option linter.all false
open Go Go.Proofs
namespace GoL
set_option linter.unusedVariables false
set_option linter.unusedSimpArgs false
def b34 : List V → (V → Prop) → Prop
  | [.agg [.int .i64 t, .int .i64 n, .list false ls]], k => (∀ u ∈ ls, Typed Try.prog reachBytes 28 u) ∧ k (.bool (dec (inO ls)))
  | _, _ => False
def b35 : List V → (V → Prop) → Prop
  | [.agg [.int .i64 t, .int .i64 n, .list false ls]], k => (∀ u ∈ ls, Typed Try.prog reachBytes 28 u) ∧ k (.bool (dec (AllS (listP ls) ls.length 1 0)))
  | _, _ => False
noncomputable def bigO (c t n : Int) (ls : List V) : Bool := if (t != 7) then false else if (n != 0) then false else if decide ((ls.length : Int) > 40) then false else if (c == 80) then dec (inO ls) else dec (AllS (listP ls) ls.length 1 0)
noncomputable def letO (c t n : Int) (ls : List V) : Bool := if (c == 83) then bigO c t n ls else if (c == 80) then bigO c t n ls else fit1 c t n ls
def sp30g : SpT := spAdd 34 b34 (spAdd 35 b35 (spAdd 36 b36 (spAdd 37 b37 (spAdd 38 b38 (spNil)))))
def b30g : List V → (V → Prop) → Prop
  | [.int .u8 c, .agg [.int .i64 t, .int .i64 n, .list false ls]], k => (∀ u ∈ ls, Typed Try.prog reachBytes 28 u) ∧ k (.bool (letO c t n ls))
  | _, _ => False
def b32g : List V → (V → Prop) → Prop
  | [.agg [.int .i64 t, .int .i64 n, .list false ls]], k => (∀ u ∈ ls, Typed Try.prog reachBytes 28 u) ∧ k (.bool (ck32 t n ls))
  | _, _ => False
def b33 : List V → (V → Prop) → Prop
  | [.int .u8 c, .agg [.int .i64 t, .int .i64 n, .list false ls]], k => (∀ u ∈ ls, Typed Try.prog reachBytes 28 u) ∧ k (.bool (letB c t n ls))
  | _, _ => False
def okG (sg : List UInt8) (xs : List V) (i : Int) : Prop := letO ((sg.getD i.toNat 0).toNat : Int) (tagV (getV xs i)) (numV (getV xs i)) (kidsV (getV xs i)) = true
noncomputable def fitsG (op : Int) (xs : List V) : Bool := if decide (op < 1) then false else if decide (op > 51) then false else if ((xs.length : Int) != ((sigS op).length : Int)) then false else dec (AllS (okG (sigS op) xs) xs.length 1 0)
def okR (sg : List UInt8) (xs : List V) (i : Int) : Prop := ck32 (tagV (getV xs i)) (numV (getV xs i)) (kidsV (getV xs i)) = true ∧ letB ((sg.getD i.toNat 0).toNat : Int) (tagV (getV xs i)) (numV (getV xs i)) (kidsV (getV xs i)) = true
noncomputable def fitsR (op : Int) (xs : List V) : Bool := if decide (op < 1) then false else if decide (op > 51) then false else if ((xs.length : Int) != ((sig9 op).length : Int)) then false else dec (AllS (okR (sig9 op) xs) (sig9 op).length 1 0)
def sp19g : SpT := spAdd 8 b8 (spAdd 30 b30g (spNil))
def ent19g : List V → List Blk → KK → Prop
  | [.str sg, .list false xs, .int .i64 n, .int .i64 i], [], K => n = xs.length ∧ xs.length ≤ 9223372036854775807 ∧ xs.length = sg.length ∧ (∀ u ∈ xs, Typed Try.prog reachBytes 28 u) ∧ i = 0 ∧ (AllS (okG sg xs) xs.length 1 0 → K (.exit 0) 1000 [] []) ∧ (¬ AllS (okG sg xs) xs.length 1 0 → K .ret 1000 [(2, .gd true (.bool false))] [])
  | _, _, _ => False
def ls19g : LsT := lsAdd 0 1000 [3, 26, 27, 28] [] ent19g noLs
def sp24 : SpT := spAdd 9 b9 (spAdd 32 b32g (spAdd 33 b33 (spNil)))
def ent24 : List V → List Blk → KK → Prop
  | [.ptr 1000 0 [], .str sg, .int .i64 i], [⟨none, false, .agg [.int .i64 op, .list false xs]⟩], K => xs.length = sg.length ∧ (∀ u ∈ xs, Typed Try.prog reachBytes 28 u) ∧ i = 0 ∧ (AllS (okR sg xs) sg.length 1 0 → K (.exit 0) 1001 [] []) ∧ (¬ AllS (okR sg xs) sg.length 1 0 → K .ret 1001 [(2, .gd true (.bool false))] [])
  | _, _, _ => False
def ls24 : LsT := lsAdd 0 1001 [1, 3, 4] [1000] ent24 noLs
def ends19g : EndsL := ⟨1000, [3, 26, 27, 28], [], 0, 1000, [], [], [2], []⟩
def ends24_0 : EndsL := ⟨1001, [1, 3, 4], [1000], 0, 1001, [], [], [2], []⟩
end GoL
