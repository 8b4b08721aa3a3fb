/- Proved here, of the given program: the law IffAll returns true for every input, and leaves its arguments as they were. No conditions. -/
import Derived.Test.YtkkmiicadfmfdaaXR
import Derived.Test.YtkkmiicadfmfdaaGD
import Derived.Test.YtkkmiicadfmfdaaRows
import Derived.WalkKit
import Derived.ProofKit
import Derived.OpenShut
set_option linter.all false
namespace GoL
open Go Go.Proofs
theorem len2e {α : Type} {l : List α} (h : l.length = 2) : ∃ a b, l = [a, b] := by
  match l, h with
  | [a, b], _ => exact ⟨a, b, rfl⟩
theorem len3e {α : Type} {l : List α} (h : l.length = 3) : ∃ a b c, l = [a, b, c] := by
  match l, h with
  | [a, b, c], _ => exact ⟨a, b, c, rfl⟩
theorem ty22 {v : V} (h : Typed Try.prog reachBytes 22 v) : ∃ vs : List V, v = .list false vs ∧ BLs vs := by
  obtain ⟨vs, rfl, _, hk⟩ := h.list_inv Try.underlying22
  refine ⟨vs, rfl, fun u hu => ?_⟩
  obtain ⟨n, rfl, h0, h1⟩ := (hk u hu).int_inv Try.underlying5
  have e0 : IntKind.u8.min = 0 := rfl
  have e1 : IntKind.u8.max = 255 := rfl
  exact isByte_int (by omega) (by omega)
theorem ty9s {v : V} (h : Typed Try.prog reachBytes 9 v) : ∃ s : List UInt8, v = .str s := by
  obtain ⟨s, rfl, _⟩ := h.str_inv Try.underlying9
  exact ⟨s, rfl⟩
theorem ty23 {v : V} (h : Typed Try.prog reachBytes 23 v) : ∃ ls : List V, v = .list false ls ∧ CLs ls := by
  obtain ⟨ls, rfl, _, hk⟩ := h.list_inv Try.underlying23
  refine ⟨ls, rfl, fun u hu => ?_⟩
  obtain ⟨ws, rfl, hl, hf⟩ := (hk u hu).struct_inv Try.underlying36
  obtain ⟨x, y, rfl⟩ := len2e hl
  obtain ⟨n, rfl⟩ := ty9s (hf 0 _ x rfl rfl)
  obtain ⟨d, rfl⟩ := ty9s (hf 1 _ y rfl rfl)
  exact ⟨n, d, rfl⟩
theorem ty3i {v : V} (h : Typed Try.prog reachBytes 3 v) : ∃ n : Int, v = .int .i64 n := by
  obtain ⟨n, rfl, _⟩ := h.int_inv Try.underlying3
  exact ⟨n, rfl⟩

end GoL
namespace Go.Proofs.Ytkkmiicadfmfdaa
open Go.ChangeShapes Go.WideShapes Go.ChangeAt Go.RowKit GoL
set_option linter.unusedVariables false

theorem ownE : ownKnob Try.prog.godebug = none := by kernel_rfl
theorem laidE : laidOutB Try.prog = true := by kernel_rfl

set_option maxRecDepth 100000 in
theorem all_lifted (os : Os) (started : os.Started) (H : Type) (enc : TypeId × Value → H) :
    ReturnsInHanded {} Try.checked os 6 .any (Rows.iffAllSpec.pre6 enc Try.prog Try.f6 Rows.iffAllRow.domain false) (Rows.iffAllSpec.post enc Try.prog Try.f6 false true false false) := by
  refine law_lifted (C := Try.checked) ownE started (by kernel_rfl) Try.func6
    (ChangeSpec.witness6 (enc := enc) (C := Try.checked) false ⟨#[], #[.slice none 0 0, .slice none 0 0, .string ⟨#[]⟩], []⟩ 8 (by kernel_rfl) (by kernel_rfl) (by kernel_rfl) (by kernel_rfl))
    [4, 5, 9, 22, 23, 36] (by kernel_rfl) (by kernel_rfl) (tb := 4) rfl Try.underlying4 rfl ?_ laidE ?_
  · intro ds h
    obtain ⟨a, b, c, rfl⟩ := len3e h
    rfl
  · intro trees h ht
    obtain ⟨a, b, c, rfl⟩ := len3e h
    obtain ⟨vs, rfl, hb⟩ := ty22 (ht 0 22 a rfl rfl)
    obtain ⟨ls, rfl, hc⟩ := ty23 (ht 1 23 b rfl rfl)
    obtain ⟨s, rfl⟩ := ty9s (ht 2 9 c rfl rfl)
    exact c6 vs ls s hb hc

theorem all_holds : Rows.IffAllSaid :=
  OpenClaim.holds_of_wide 6 Try.f6 rfl rfl rfl rfl rfl rfl rfl ⟨rfl, rfl, rfl, rfl, rfl⟩ rfl rfl rfl rfl rfl (by kernel_rfl) Try.func6 (by kernel_rfl)
    (of_decide_eq_true (by kernel_rfl)) (by unfold Func.isWrapper; first | (rw [if_pos (by decide +kernel)]; kernel_rfl) | (rw [if_neg (by decide +kernel)]; exact ⟨rfl, rfl⟩))
    (fun os started H enc _ => all_lifted os started H enc)
end Go.Proofs.Ytkkmiicadfmfdaa
