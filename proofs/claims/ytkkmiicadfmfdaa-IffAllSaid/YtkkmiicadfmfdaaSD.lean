/- A part of the proof: a logic for programs of this kind, proved sound over the model; contracts of functions; plain laws. -/
import Derived.Test.YtkkmiicadfmfdaaMD
import Derived.Test.YtkkmiicadfmfdaaProg
import Derived.KernelRfl
set_option linter.all false
open Go Go.Proofs
namespace GoL
set_option linter.unusedVariables false
set_option linter.unusedSimpArgs false
def sp9 : SpT := shAdd 10 0 h10 (spAdd 11 b11 spNil)
def b9 : List V → (V → Prop) → Prop
  | [], k => k (.bool true)
  | _, _ => False
def sp3 : SpT := shAdd 10 0 h10 (spAdd 11 b11 (spAdd 8 b8 (spAdd 9 b9 (spAdd 12 b12 (spAdd 13 b13 spNil)))))
end GoL
