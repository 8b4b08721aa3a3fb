/- Proved here, of the given program: the law IffSizes returns true for every input, and leaves its arguments as they were. No conditions. -/
import Derived.Test.YtkkmiicadfmfdaaWQ
import Derived.Test.YtkkmiicadfmfdaaGD
import Derived.Test.YtkkmiicadfmfdaaRows
import Derived.WalkKit
import Derived.ProofKit
import Derived.OpenShut
set_option linter.all false
namespace GoL
open Go Go.Proofs
theorem len2e {α : Type} {l : List α} (h : l.length = 2) : ∃ a b, l = [a, b] := by
  match l, h with
  | [a, b], _ => exact ⟨a, b, rfl⟩
theorem len3e {α : Type} {l : List α} (h : l.length = 3) : ∃ a b c, l = [a, b, c] := by
  match l, h with
  | [a, b, c], _ => exact ⟨a, b, c, rfl⟩
theorem ty22 {v : V} (h : Typed Try.prog reachBytes 22 v) : ∃ vs : List V, v = .list false vs ∧ BLs vs := by
  obtain ⟨vs, rfl, _, hk⟩ := h.list_inv Try.underlying22
  refine ⟨vs, rfl, fun u hu => ?_⟩
  obtain ⟨n, rfl, h0, h1⟩ := (hk u hu).int_inv Try.underlying5
  have e0 : IntKind.u8.min = 0 := rfl
  have e1 : IntKind.u8.max = 255 := rfl
  exact isByte_int (by omega) (by omega)
theorem ty9s {v : V} (h : Typed Try.prog reachBytes 9 v) : ∃ s : List UInt8, v = .str s := by
  obtain ⟨s, rfl, _⟩ := h.str_inv Try.underlying9
  exact ⟨s, rfl⟩
theorem ty23 {v : V} (h : Typed Try.prog reachBytes 23 v) : ∃ ls : List V, v = .list false ls ∧ CLs ls := by
  obtain ⟨ls, rfl, _, hk⟩ := h.list_inv Try.underlying23
  refine ⟨ls, rfl, fun u hu => ?_⟩
  obtain ⟨ws, rfl, hl, hf⟩ := (hk u hu).struct_inv Try.underlying36
  obtain ⟨x, y, rfl⟩ := len2e hl
  obtain ⟨n, rfl⟩ := ty9s (hf 0 _ x rfl rfl)
  obtain ⟨d, rfl⟩ := ty9s (hf 1 _ y rfl rfl)
  exact ⟨n, d, rfl⟩
theorem ty3i {v : V} (h : Typed Try.prog reachBytes 3 v) : ∃ n : Int, v = .int .i64 n := by
  obtain ⟨n, rfl, _⟩ := h.int_inv Try.underlying3
  exact ⟨n, rfl⟩
theorem ty38 {v : V} (h : Typed Try.prog reachBytes 38 v) : ∃ xs : List V, v = .list false xs ∧ StL xs ∧ xs.length ≤ 9223372036854775807 := by
  obtain ⟨xs, rfl, hl, hk⟩ := h.list_inv Try.underlying38
  refine ⟨xs, rfl, fun u hu => ty9s (hk u hu), ?_⟩
  have e : Try.prog.bytesOf 9 = 16 := by kernel_rfl
  rw [e] at hl
  have : xs.length * 16 ≤ 140737488351232 := hl
  omega
theorem ty39 {v : V} (h : Typed Try.prog reachBytes 39 v) : ∃ n : Int, v = .int .u32 n ∧ 0 ≤ n ∧ n < 4294967296 := by
  obtain ⟨n, rfl, h0, h1⟩ := h.int_inv Try.underlying39
  have e0 : IntKind.u32.min = 0 := rfl
  have e1 : IntKind.u32.max = 4294967295 := rfl
  exact ⟨n, rfl, by omega, by omega⟩

end GoL
namespace Go.Proofs.Ytkkmiicadfmfdaa
open Go.ChangeShapes Go.WideShapes Go.ChangeAt Go.RowKit GoL
set_option linter.unusedVariables false

theorem ownE : ownKnob Try.prog.godebug = none := by kernel_rfl
theorem laidE : laidOutB Try.prog = true := by kernel_rfl

set_option maxRecDepth 100000 in
theorem sizes_lifted (os : Os) (started : os.Started) (H : Type) (enc : TypeId × Value → H) :
    ReturnsInHanded {} Try.checked os 7 .any (Rows.iffSizesSpec.pre6 enc Try.prog Try.f7 Rows.iffSizesRow.domain false) (Rows.iffSizesSpec.post enc Try.prog Try.f7 false true false false) := by
  refine law_lifted (C := Try.checked) ownE started (by kernel_rfl) Try.func7
    (ChangeSpec.witness6 (enc := enc) (C := Try.checked) false ⟨#[], #[.slice none 0 0, .int .i64 0], []⟩ 8 (by kernel_rfl) (by kernel_rfl) (by kernel_rfl) (by kernel_rfl))
    [3, 4, 9, 38] (by kernel_rfl) (by kernel_rfl) (tb := 4) rfl Try.underlying4 rfl ?_ laidE ?_
  · intro ds h
    obtain ⟨a, b, rfl⟩ := len2e h
    rfl
  · intro trees h ht
    obtain ⟨a, b, rfl⟩ := len2e h
    obtain ⟨xs, rfl, hx, hl⟩ := ty38 (ht 0 38 a rfl rfl)
    obtain ⟨x, rfl⟩ := ty3i (ht 1 3 b rfl rfl)
    exact c7 xs x hx hl

theorem sizes_holds : Rows.IffSizesSaid :=
  OpenClaim.holds_of_wide 7 Try.f7 rfl rfl rfl rfl rfl rfl rfl ⟨rfl, rfl, rfl, rfl, rfl⟩ rfl rfl rfl rfl rfl (by kernel_rfl) Try.func7 (by kernel_rfl)
    (of_decide_eq_true (by kernel_rfl)) (by unfold Func.isWrapper; first | (rw [if_pos (by decide +kernel)]; kernel_rfl) | (rw [if_neg (by decide +kernel)]; exact ⟨rfl, rfl⟩))
    (fun os started H enc _ => sizes_lifted os started H enc)
end Go.Proofs.Ytkkmiicadfmfdaa
