/- A part of the proof: a logic for programs of this kind, proved sound over the model; contracts of functions; plain laws. -/
import Derived.Test.YtjnagpmhkpkngaaED
import Derived.Test.YtjnagpmhkpkngaaProg
import Derived.KernelRfl
set_option linter.all false
open Go Go.Proofs
namespace GoL
set_option linter.unusedVariables false
set_option linter.unusedSimpArgs false
def h23 : HBody := fun heads rest H1 id k => match heads, rest with
  | [], [.list false xs] => (TyL xs ∧ Few xs) ∧ k (.sl id xs.length) [(id, ⟨some 28, false, .agg xs⟩)]
  | _, _ => False
def sp6 : SpT := shAdd 23 0 h23 (spAdd 22 (b22 TyL) (spAdd 14 b14 (spAdd 19 b19g (spAdd 24 b24 (spAdd 25 b25g (spAdd 18 b18 (spAdd 27 b27 (spNil))))))))
end GoL
