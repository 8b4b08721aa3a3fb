/- Proved here, of the given program: the law OpsAll returns true for every input, and leaves its arguments as they were. No conditions. -/
import Derived.Test.YtjnagpmhkpkngaaEP
import Derived.Test.YtjnagpmhkpkngaaGD
import Derived.Test.YtjnagpmhkpkngaaRows
import Derived.WalkKit
import Derived.ProofKit
import Derived.OpenShut
set_option linter.all false
namespace GoL
open Go Go.Proofs
theorem sp5_ok : SpOk Try.prog sp5 := spAdd_ok b22_ok (spAdd_ok b14_ok (spAdd_ok b23_ok (spAdd_ok b19g_ok (spAdd_ok b24_ok (spAdd_ok b25g_ok (spAdd_ok b26_ok (spAdd_ok b8_ok (spAdd_ok b9_ok (spAdd_ok b10g_ok (spAdd_ok b11_ok (spAdd_ok b12_ok (spAdd_ok b13_ok spNil_ok))))))))))))
theorem c5 (op : Int) (xs : List V) (x : Int) (ht : TyL xs) : CallP Try.prog 5 [.agg [.int .i64 op, .list false xs], .int .i64 x] (.bool true) := by
  refine call_plain sp5_ok Try.func5 Try.ntmps5 (by kernel_rfl) ((n5 op xs x _).mpr ⟨ht, ?_⟩)
  intro a ha
  refine ⟨fun _ => rfl, fun h => ?_⟩
  have hf : fewV xs 3 = true := by rw [ha] at h; simpa using h
  have hfew := few_of ht hf
  refine ⟨⟨ht, hfew⟩, ht, ht, fun b hb => ?_⟩
  have hb : b = true := by rw [hb, fits_eq]; simp
  subst hb
  refine ⟨fun _ => ⟨ht, ht, fun c hc => ?_⟩, fun h => by cases h⟩
  have hc : c = true := by rw [hc, fits_eq]; simp
  subst hc
  refine ⟨fun _ d hd => ?_, fun h => by cases h⟩
  have hd : d = true := by rw [hd, sig_all]; simp
  subst hd
  refine ⟨fun _ e he => ?_, fun h => by cases h⟩
  have he : e = true := by rw [he]; simp
  subst he
  refine ⟨fun _ f hf => ?_, fun h => by cases h⟩
  have hf : f = true := by rw [hf]; simp
  subst hf
  exact ⟨fun _ => rfl, fun h => by cases h⟩
theorem len2e {α : Type} {l : List α} (h : l.length = 2) : ∃ a b, l = [a, b] := by
  match l, h with
  | [a, b], _ => exact ⟨a, b, rfl⟩
theorem ty34 {v : V} (h : Typed Try.prog reachBytes 34 v) : ∃ (op : Int) (xs : List V), v = .agg [.int .i64 op, .list false xs] ∧ TyL xs := by
  obtain ⟨vs, rfl, hl, hf⟩ := h.struct_inv Try.underlying34
  obtain ⟨a, b, rfl⟩ := len2e hl
  obtain ⟨op, rfl⟩ := ty3a (hf 0 _ a rfl rfl)
  obtain ⟨xs, rfl, _, hk⟩ := (hf 1 _ b rfl rfl).list_inv Try.underlying26
  exact ⟨op, xs, rfl, hk⟩
end GoL
namespace Go.Proofs.Ytjnagpmhkpkngaa
open Go.ChangeShapes Go.WideShapes Go.ChangeAt Go.RowKit GoL
set_option linter.unusedVariables false

theorem ownE : ownKnob Try.prog.godebug = none := by kernel_rfl
theorem laidE : laidOutB Try.prog = true := by kernel_rfl

set_option maxRecDepth 100000 in
theorem all_lifted (os : Os) (started : os.Started) (H : Type) (enc : TypeId × Value → H) :
    ReturnsInHanded {} Try.checked os 5 .any (Rows.opsAllSpec.pre6 enc Try.prog Try.f5 Rows.opsAllRow.domain false) (Rows.opsAllSpec.post enc Try.prog Try.f5 false true false false) := by
  refine law_lifted (C := Try.checked) ownE started (by kernel_rfl) Try.func5
    (ChangeSpec.witness6 (enc := enc) (C := Try.checked) false ⟨#[], #[.agg #[.int .i64 0, .slice none 0 0], .int .i64 0], []⟩ 8 (by kernel_rfl) (by kernel_rfl) (by kernel_rfl) (by kernel_rfl))
    [3, 26, 28, 34] (by kernel_rfl) (by kernel_rfl) (tb := 4) rfl Try.underlying4 rfl ?_ laidE ?_
  · intro ds h
    obtain ⟨a, b, rfl⟩ := len2e h
    rfl
  · intro trees h ht
    obtain ⟨a, b, rfl⟩ := len2e h
    obtain ⟨op, xs, rfl, hx⟩ := ty34 (ht 0 34 a rfl rfl)
    obtain ⟨x, rfl⟩ := ty3a (ht 1 3 b rfl rfl)
    exact c5 op xs x hx

theorem all_holds : Rows.OpsAllSaid :=
  OpenClaim.holds_of_wide 5 Try.f5 rfl rfl rfl rfl rfl rfl rfl ⟨rfl, rfl, rfl, rfl, rfl⟩ rfl rfl rfl rfl rfl (by kernel_rfl) Try.func5 (by kernel_rfl)
    (of_decide_eq_true (by kernel_rfl)) (by unfold Func.isWrapper; first | (rw [if_pos (by decide +kernel)]; kernel_rfl) | (rw [if_neg (by decide +kernel)]; exact ⟨rfl, rfl⟩))
    (fun os started H enc _ => all_lifted os started H enc)
end Go.Proofs.Ytjnagpmhkpkngaa
