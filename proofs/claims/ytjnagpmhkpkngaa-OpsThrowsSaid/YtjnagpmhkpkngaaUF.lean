/- Proved here, of the given program: the law OpsThrows returns true for every input, and leaves its arguments as they were. No conditions. -/
import Derived.Test.YtjnagpmhkpkngaaUP
import Derived.Test.YtjnagpmhkpkngaaGD
import Derived.Test.YtjnagpmhkpkngaaRows
import Derived.WalkKit
import Derived.ProofKit
import Derived.OpenShut
set_option linter.all false
namespace Go.Proofs.Ytjnagpmhkpkngaa
open Go.ChangeShapes Go.WideShapes Go.ChangeAt Go.RowKit GoL
set_option linter.unusedVariables false

theorem ownU : ownKnob Try.prog.godebug = none := by kernel_rfl
theorem laidU : laidOutB Try.prog = true := by kernel_rfl
theorem intU {v : V} (h : Typed Try.prog reachBytes 3 v) : ∃ n : Int, v = .int .i64 n := by
  obtain ⟨n, rfl, _⟩ := h.int_inv Try.underlying3
  exact ⟨n, rfl⟩
theorem twoU {α : Type} {l : List α} (h : l.length = 2) : ∃ a b, l = [a, b] := by
  match l, h with
  | [a, b], _ => exact ⟨a, b, rfl⟩

set_option maxRecDepth 100000 in
theorem throws_lifted (os : Os) (started : os.Started) (H : Type) (enc : TypeId × Value → H) :
    ReturnsInHanded {} Try.checked os 7 .any (Rows.opsThrowsSpec.pre6 enc Try.prog Try.f7 Rows.opsThrowsRow.domain false) (Rows.opsThrowsSpec.post enc Try.prog Try.f7 false true false false) := by
  refine law_lifted (C := Try.checked) ownU started (by kernel_rfl) Try.func7
    (ChangeSpec.witness6 (enc := enc) (C := Try.checked) false ⟨#[], #[.int .i64 0, .int .i64 0], []⟩ 8 (by kernel_rfl) (by kernel_rfl) (by kernel_rfl) (by kernel_rfl))
    [3] (by kernel_rfl) (by kernel_rfl) (tb := 4) rfl Try.underlying4 rfl ?_ laidU ?_
  · intro ds h
    obtain ⟨a, b, rfl⟩ := twoU h
    rfl
  · intro trees h ht
    obtain ⟨a, b, rfl⟩ := twoU h
    obtain ⟨x, rfl⟩ := intU (ht 0 3 a rfl rfl)
    obtain ⟨y, rfl⟩ := intU (ht 1 3 b rfl rfl)
    exact c7 x y

theorem throws_holds : Rows.OpsThrowsSaid :=
  OpenClaim.holds_of_wide 7 Try.f7 rfl rfl rfl rfl rfl rfl rfl ⟨rfl, rfl, rfl, rfl, rfl⟩ rfl rfl rfl rfl rfl (by kernel_rfl) Try.func7 (by kernel_rfl)
    (of_decide_eq_true (by kernel_rfl)) (by unfold Func.isWrapper; first | (rw [if_pos (by decide +kernel)]; kernel_rfl) | (rw [if_neg (by decide +kernel)]; exact ⟨rfl, rfl⟩))
    (fun os started H enc _ => throws_lifted os started H enc)
end Go.Proofs.Ytjnagpmhkpkngaa
