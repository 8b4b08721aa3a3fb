/- Proved here, of the given program: the law OpsTable returns true for every input. No conditions. -/
import Derived.Test.YtjnagpmhkpkngaaTP
import Derived.Test.YtjnagpmhkpkngaaGD
import Derived.Test.YtjnagpmhkpkngaaRows
import Derived.WalkKit
import Derived.ProofKit
import Derived.OpenShut
set_option linter.all false
namespace Go.Proofs.Ytjnagpmhkpkngaa
open Go.ChangeShapes Go.WideShapes Go.ChangeAt Go.RowKit GoL
set_option linter.unusedVariables false

theorem own : ownKnob Try.prog.godebug = none := by kernel_rfl
theorem laidO : laidOutB Try.prog = true := by kernel_rfl

set_option maxRecDepth 100000 in
theorem table_lifted (os : Os) (started : os.Started) (H : Type) (enc : TypeId × Value → H) :
    ReturnsInHanded {} Try.checked os 3 .any (Rows.opsTableSpec.pre6 enc Try.prog Try.f3 Rows.opsTableRow.domain false) (Rows.opsTableSpec.post enc Try.prog Try.f3 false true false false) := by
  refine law_lifted (C := Try.checked) own started (by kernel_rfl) Try.func3
    (ChangeSpec.witness6 (enc := enc) (C := Try.checked) false ⟨#[], #[], []⟩ 8 (by kernel_rfl) (by kernel_rfl) (by kernel_rfl) (by kernel_rfl))
    [3] (by kernel_rfl) (by kernel_rfl) (tb := 4) rfl Try.underlying4 rfl ?_ laidO ?_
  · intro ds h
    have e := List.eq_nil_of_length_eq_zero h
    subst e
    rfl
  · intro trees h ht
    have e := List.eq_nil_of_length_eq_zero h
    subst e
    exact c3

theorem table_holds : Rows.OpsTableSaid :=
  OpenClaim.holds_of_wide 3 Try.f3 rfl rfl rfl rfl rfl rfl rfl ⟨rfl, rfl, rfl, rfl, rfl⟩ rfl rfl rfl rfl rfl (by kernel_rfl) Try.func3 (by kernel_rfl)
    (of_decide_eq_true (by kernel_rfl)) (by unfold Func.isWrapper; first | (rw [if_pos (by decide +kernel)]; kernel_rfl) | (rw [if_neg (by decide +kernel)]; exact ⟨rfl, rfl⟩))
    (fun os started H enc _ => table_lifted os started H enc)
end Go.Proofs.Ytjnagpmhkpkngaa
