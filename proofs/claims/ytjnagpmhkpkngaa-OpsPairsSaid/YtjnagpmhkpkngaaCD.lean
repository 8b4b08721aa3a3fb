/- A part of the proof: a logic for programs of this kind, proved sound over the model; contracts of functions; plain laws. -/
import Derived.Test.YtjnagpmhkpkngaaBD
import Derived.Test.YtjnagpmhkpkngaaUD
import Derived.Test.YtjnagpmhkpkngaaProg
import Derived.KernelRfl
set_option linter.all false
open Go Go.Proofs
namespace GoL
set_option linter.unusedVariables false
set_option linter.unusedSimpArgs false
def thr (b : Bool) (op : Int) (xs : List V) : Bool := if (!b) then false else if (op == 2) then true else if (op == 6) then true else if (op == 9) then true else if (op == 10) then true else if (op == 17) then true else if (op == 18) then true else if (op == 43) then true else if (op == 44) then true else if (op == 48) then true else if (op == 49) then true else if (op == 50) then true else if (op == 51) then true else if (op == 35) then (N0 xs == 0) else if (op == 36) then (N0 xs == 0) else if (op == 37) then (N0 xs == 0) else false
def b19g : List V → (V → Prop) → Prop
  | [.agg [.int .i64 op, .list false xs]], k => (∀ u ∈ xs, Typed Try.prog reachBytes 28 u) ∧ k (.bool (fitsG op xs))
  | _, _ => False
def b24 : List V → (V → Prop) → Prop
  | [.agg [.int .i64 op, .list false xs]], k => (∀ u ∈ xs, Typed Try.prog reachBytes 28 u) ∧ k (.bool (fitsR op xs))
  | _, _ => False
def b25g : List V → (V → Prop) → Prop
  | [.agg [.int .i64 op, .list false xs]], k => (∀ u ∈ xs, Typed Try.prog reachBytes 28 u) ∧ k (.bool (thr (fitsG op xs) op xs))
  | _, _ => False
def b26 : List V → (V → Prop) → Prop
  | [.agg [.int .i64 op, .list false xs]], k => (∀ u ∈ xs, Typed Try.prog reachBytes 28 u) ∧ k (.bool (thr (fitsR op xs) op xs))
  | _, _ => False
def sp25g : SpT := spAdd 19 b19g (spNil)
def sp26 : SpT := spAdd 24 b24 (spNil)
def b10g : List V → (V → Prop) → Prop
  | [.int .i64 op], k => k (.str (name9 op))
  | _, _ => False
inductive Few : List V → Prop
  | mk {ls : List V} : ls.length ≤ 60 → (∀ u ∈ ls, Few (kidsV u)) → Few ls
noncomputable def fewV (ls : List V) (d : Int) : Bool := Classical.epsilon fun b => CallP Try.prog 22 [.list false ls, .int .i64 d] (.bool b) ∧ (b = true → Few ls)
def b22 (S : List V → Prop) : List V → (V → Prop) → Prop
  | [.list false ls, .int .i64 d], k => S ls ∧ k (.bool (fewV ls d))
  | _, _ => False
def sp22 (S : List V → Prop) : SpT := spAdd 22 (b22 S) spNil
def fewP (ls : List V) (d i : Int) : Prop := (kidsV (getV ls i)).length > 0 → fewV (kidsV (getV ls i)) (IntKind.i64.wrap (d - 1)) = true
def ent22 (l0 : List V) : List V → List Blk → KK → Prop
  | [.list false ls, .int .i64 d, .int .i64 i], [], K => ls = l0 ∧ i = 0 ∧ (AllS (fewP ls d) ls.length 1 0 → K (.exit 0) 1000 [] []) ∧ (¬ AllS (fewP ls d) ls.length 1 0 → K .ret 1000 [(4, .gd true (.bool false))] [])
  | _, _, _ => False
def ls22 (l0 : List V) : LsT := lsAdd 0 1000 [0, 1, 5] [] (ent22 l0) noLs
def ends22_0 : EndsL := ⟨1000, [0, 1, 5], [], 0, 1000, [], [], [4], []⟩
end GoL
