/- Proved here, of the given program: the law OpsPairs returns true for every input, and leaves its arguments as they were. No conditions. -/
import Derived.Test.YtjnagpmhkpkngaaPP
import Derived.Test.YtjnagpmhkpkngaaGD
import Derived.Test.YtjnagpmhkpkngaaRows
import Derived.WalkKit
import Derived.ProofKit
import Derived.OpenShut
set_option linter.all false
namespace GoL
open Go Go.Proofs
theorem len2e {α : Type} {l : List α} (h : l.length = 2) : ∃ a b, l = [a, b] := by
  match l, h with
  | [a, b], _ => exact ⟨a, b, rfl⟩
theorem len3e {α : Type} {l : List α} (h : l.length = 3) : ∃ a b c, l = [a, b, c] := by
  match l, h with
  | [a, b, c], _ => exact ⟨a, b, c, rfl⟩
theorem ty25 {v : V} (h : Typed Try.prog reachBytes 25 v) : ∃ ls : List V, v = .list false ls ∧ (∀ u ∈ ls, Typed Try.prog reachBytes 3 u) ∧ ls.length ≤ 9223372036854775807 := by
  obtain ⟨ls, rfl, hl, hk⟩ := h.list_inv Try.underlying25
  refine ⟨ls, rfl, hk, ?_⟩
  have e : Try.prog.bytesOf 3 = 8 := by kernel_rfl
  rw [e] at hl
  have : ls.length * 8 ≤ 140737488351232 := hl
  omega
theorem ty4 {v : V} (h : Typed Try.prog reachBytes 4 v) : ∃ b : Bool, v = .bool b := h.bool_inv Try.underlying4
end GoL
namespace Go.Proofs.Ytjnagpmhkpkngaa
open Go.ChangeShapes Go.WideShapes Go.ChangeAt Go.RowKit GoL
set_option linter.unusedVariables false

theorem ownE : ownKnob Try.prog.godebug = none := by kernel_rfl
theorem laidE : laidOutB Try.prog = true := by kernel_rfl

set_option maxRecDepth 100000 in
theorem pairs_lifted (os : Os) (started : os.Started) (H : Type) (enc : TypeId × Value → H) :
    ReturnsInHanded {} Try.checked os 4 .any (Rows.opsPairsSpec.pre6 enc Try.prog Try.f4 Rows.opsPairsRow.domain false) (Rows.opsPairsSpec.post enc Try.prog Try.f4 false true false false) := by
  refine law_lifted (C := Try.checked) ownE started (by kernel_rfl) Try.func4
    (ChangeSpec.witness6 (enc := enc) (C := Try.checked) false ⟨#[], #[.slice none 0 0, .bool false, .int .i64 0], []⟩ 8 (by kernel_rfl) (by kernel_rfl) (by kernel_rfl) (by kernel_rfl))
    [3, 4, 25] (by kernel_rfl) (by kernel_rfl) (tb := 4) rfl Try.underlying4 rfl ?_ laidE ?_
  · intro ds h
    obtain ⟨a, b, c, rfl⟩ := len3e h
    rfl
  · intro trees h ht
    obtain ⟨a, b, c, rfl⟩ := len3e h
    obtain ⟨ls, rfl, hx, hl⟩ := ty25 (ht 0 25 a rfl rfl)
    obtain ⟨tw, rfl⟩ := ty4 (ht 1 4 b rfl rfl)
    obtain ⟨hw, rfl⟩ := ty3a (ht 2 3 c rfl rfl)
    exact c4 ls tw hw hx hl

theorem pairs_holds : Rows.OpsPairsSaid :=
  OpenClaim.holds_of_wide 4 Try.f4 rfl rfl rfl rfl rfl rfl rfl ⟨rfl, rfl, rfl, rfl, rfl⟩ rfl rfl rfl rfl rfl (by kernel_rfl) Try.func4 (by kernel_rfl)
    (of_decide_eq_true (by kernel_rfl)) (by unfold Func.isWrapper; first | (rw [if_pos (by decide +kernel)]; kernel_rfl) | (rw [if_neg (by decide +kernel)]; exact ⟨rfl, rfl⟩))
    (fun os started H enc _ => pairs_lifted os started H enc)
end Go.Proofs.Ytjnagpmhkpkngaa
