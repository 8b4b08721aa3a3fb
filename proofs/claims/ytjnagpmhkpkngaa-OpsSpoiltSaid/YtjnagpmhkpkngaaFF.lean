/- Proved here, of the given program: the law OpsSpoilt returns true for every input, and leaves its arguments as they were. No conditions. -/
import Derived.Test.YtjnagpmhkpkngaaFP
import Derived.Test.YtjnagpmhkpkngaaGD
import Derived.Test.YtjnagpmhkpkngaaRows
import Derived.WalkKit
import Derived.ProofKit
import Derived.OpenShut
set_option linter.all false
namespace GoL
open Go Go.Proofs
theorem len2e {α : Type} {l : List α} (h : l.length = 2) : ∃ a b, l = [a, b] := by
  match l, h with
  | [a, b], _ => exact ⟨a, b, rfl⟩
theorem len3e {α : Type} {l : List α} (h : l.length = 3) : ∃ a b c, l = [a, b, c] := by
  match l, h with
  | [a, b, c], _ => exact ⟨a, b, c, rfl⟩
theorem ty34 {v : V} (h : Typed Try.prog reachBytes 34 v) : ∃ (op : Int) (xs : List V), v = .agg [.int .i64 op, .list false xs] ∧ TyL xs := by
  obtain ⟨vs, rfl, hl, hf⟩ := h.struct_inv Try.underlying34
  obtain ⟨a, b, rfl⟩ := len2e hl
  obtain ⟨op, rfl⟩ := ty3a (hf 0 _ a rfl rfl)
  obtain ⟨xs, rfl, _, hk⟩ := (hf 1 _ b rfl rfl).list_inv Try.underlying26
  exact ⟨op, xs, rfl, hk⟩
end GoL
namespace Go.Proofs.Ytjnagpmhkpkngaa
open Go.ChangeShapes Go.WideShapes Go.ChangeAt Go.RowKit GoL
set_option linter.unusedVariables false

theorem ownE : ownKnob Try.prog.godebug = none := by kernel_rfl
theorem laidE : laidOutB Try.prog = true := by kernel_rfl

set_option maxRecDepth 100000 in
theorem spoilt_lifted (os : Os) (started : os.Started) (H : Type) (enc : TypeId × Value → H) :
    ReturnsInHanded {} Try.checked os 6 .any (Rows.opsSpoiltSpec.pre6 enc Try.prog Try.f6 Rows.opsSpoiltRow.domain false) (Rows.opsSpoiltSpec.post enc Try.prog Try.f6 false true false false) := by
  refine law_lifted (C := Try.checked) ownE started (by kernel_rfl) Try.func6
    (ChangeSpec.witness6 (enc := enc) (C := Try.checked) false ⟨#[], #[.agg #[.int .i64 0, .slice none 0 0], .int .i64 0, .int .i64 0], []⟩ 8 (by kernel_rfl) (by kernel_rfl) (by kernel_rfl) (by kernel_rfl))
    [3, 26, 28, 34] (by kernel_rfl) (by kernel_rfl) (tb := 4) rfl Try.underlying4 rfl ?_ laidE ?_
  · intro ds h
    obtain ⟨a, b, c, rfl⟩ := len3e h
    rfl
  · intro trees h ht
    obtain ⟨a, b, c, rfl⟩ := len3e h
    obtain ⟨op, xs, rfl, hx⟩ := ty34 (ht 0 34 a rfl rfl)
    obtain ⟨x, rfl⟩ := ty3a (ht 1 3 b rfl rfl)
    obtain ⟨y, rfl⟩ := ty3a (ht 2 3 c rfl rfl)
    exact c6 op xs x y hx

theorem spoilt_holds : Rows.OpsSpoiltSaid :=
  OpenClaim.holds_of_wide 6 Try.f6 rfl rfl rfl rfl rfl rfl rfl ⟨rfl, rfl, rfl, rfl, rfl⟩ rfl rfl rfl rfl rfl (by kernel_rfl) Try.func6 (by kernel_rfl)
    (of_decide_eq_true (by kernel_rfl)) (by unfold Func.isWrapper; first | (rw [if_pos (by decide +kernel)]; kernel_rfl) | (rw [if_neg (by decide +kernel)]; exact ⟨rfl, rfl⟩))
    (fun os started H enc _ => spoilt_lifted os started H enc)
end Go.Proofs.Ytjnagpmhkpkngaa
