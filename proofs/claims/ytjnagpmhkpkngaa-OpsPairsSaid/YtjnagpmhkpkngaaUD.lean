/- A part of the proof: a logic for programs of this kind, proved sound over the model; contracts of functions; plain laws. -/
import Derived.Test.YtjnagpmhkpkngaaTP
import Derived.Test.YtjnagpmhkpkngaaProg
import Derived.KernelRfl
set_option linter.all false
open Go Go.Proofs
namespace GoL
set_option linter.unusedVariables false
set_option linter.unusedSimpArgs false
def N0 (xs : List V) : Int := match getV xs 0 with
  | .agg [_, .int _ n, _] => n
  | _ => 0
def throwsB (op : Int) (xs : List V) : Bool := if (!fitsB op xs) then false else if (op == 2) then true else if (op == 6) then true else if (op == 9) then true else if (op == 10) then true else if (op == 17) then true else if (op == 18) then true else if (op == 43) then true else if (op == 44) then true else if (op == 48) then true else if (op == 49) then true else if (op == 50) then true else if (op == 51) then true else if (op == 35) then (N0 xs == 0) else if (op == 36) then (N0 xs == 0) else if (op == 37) then (N0 xs == 0) else false
def b25 : List V → (V → Prop) → Prop
  | [.agg [.int .i64 op, .list false xs]], k => (xs.length = (sigS op).length → fitOk (sigS op) xs) ∧ k (.bool (throwsB op xs))
  | _, _ => False
def sp25 : SpT := spAdd 19 b19 (spNil)
def sp7 : SpT := spAdd 12 b12 (spAdd 14 b14 (spAdd 16 b16 (spAdd 17 b17 (spAdd 18 b18 (spAdd 19 b19 (spAdd 20 b20 (spAdd 21 b21 (spAdd 25 b25 (spAdd 27 b27 (spNil))))))))))
end GoL
