/- Proved here, of the given program: the laws KindSplits, KindTuples, KindNone and KindJoins return true for every input, and leave their arguments as they were. No conditions. -/
import Derived.Test.YtbobkddnaggmeaaKP
import Derived.Test.YtbobkddnaggmeaaGD
import Derived.Test.YtbobkddnaggmeaaRows
import Derived.WalkKit
import Derived.ProofKit
import Derived.OpenShut
set_option linter.all false
namespace Go.Proofs.Ytbobkddnaggmeaa
open Go.ChangeShapes Go.WideShapes Go.ChangeAt Go.RowKit GoL
set_option linter.unusedVariables false

theorem own : ownKnob Try.prog.godebug = none := by kernel_rfl
theorem laidO : laidOutB Try.prog = true := by kernel_rfl

set_option maxRecDepth 100000 in
theorem tuples_lifted (os : Os) (started : os.Started) (H : Type) (enc : TypeId × Value → H) :
    ReturnsInHanded {} Try.checked os 5 .any (Rows.kindTuplesSpec.pre6 enc Try.prog Try.f5 Rows.kindTuplesRow.domain false) (Rows.kindTuplesSpec.post enc Try.prog Try.f5 false true false false) := by
  refine law_lifted (C := Try.checked) own started (by kernel_rfl) Try.func5
    (ChangeSpec.witness6 (enc := enc) (C := Try.checked) false ⟨#[], #[.int .i64 0, .int .i64 0], []⟩ 8 (by kernel_rfl) (by kernel_rfl) (by kernel_rfl) (by kernel_rfl))
    [3] (by kernel_rfl) (by kernel_rfl) (tb := 4) rfl Try.underlying4 rfl ?_ laidO ?_
  · intro ds h
    obtain ⟨a, b, rfl⟩ := len2 h
    rfl
  · intro trees h ht
    obtain ⟨a, b, rfl⟩ := len2 h
    obtain ⟨x, rfl⟩ := ty3 (ht 0 3 a rfl rfl)
    obtain ⟨y, rfl⟩ := ty3 (ht 1 3 b rfl rfl)
    exact c5 x y

theorem tuples_holds : Rows.KindTuplesSaid :=
  OpenClaim.holds_of_wide 5 Try.f5 rfl rfl rfl rfl rfl rfl rfl ⟨rfl, rfl, rfl, rfl, rfl⟩ rfl rfl rfl rfl rfl (by kernel_rfl) Try.func5 (by kernel_rfl)
    (of_decide_eq_true (by kernel_rfl)) (by unfold Func.isWrapper; first | (rw [if_pos (by decide +kernel)]; kernel_rfl) | (rw [if_neg (by decide +kernel)]; exact ⟨rfl, rfl⟩))
    (fun os started H enc _ => tuples_lifted os started H enc)

set_option maxRecDepth 100000 in
theorem none_lifted (os : Os) (started : os.Started) (H : Type) (enc : TypeId × Value → H) :
    ReturnsInHanded {} Try.checked os 6 .any (Rows.kindNoneSpec.pre6 enc Try.prog Try.f6 Rows.kindNoneRow.domain false) (Rows.kindNoneSpec.post enc Try.prog Try.f6 false true false false) := by
  refine law_lifted (C := Try.checked) own started (by kernel_rfl) Try.func6
    (ChangeSpec.witness6 (enc := enc) (C := Try.checked) false ⟨#[], #[.agg #[.int .i64 0, .int .i64 0], .int .i64 0], []⟩ 8 (by kernel_rfl) (by kernel_rfl) (by kernel_rfl) (by kernel_rfl))
    [3, 23] (by kernel_rfl) (by kernel_rfl) (tb := 4) rfl Try.underlying4 rfl ?_ laidO ?_
  · intro ds h
    obtain ⟨a, b, rfl⟩ := len2 h
    rfl
  · intro trees h ht
    obtain ⟨a, b, rfl⟩ := len2 h
    obtain ⟨m, x, rfl⟩ := ty23 (ht 0 23 a rfl rfl)
    obtain ⟨y, rfl⟩ := ty3 (ht 1 3 b rfl rfl)
    exact c6 m x y

theorem none_holds : Rows.KindNoneSaid :=
  OpenClaim.holds_of_wide 6 Try.f6 rfl rfl rfl rfl rfl rfl rfl ⟨rfl, rfl, rfl, rfl, rfl⟩ rfl rfl rfl rfl rfl (by kernel_rfl) Try.func6 (by kernel_rfl)
    (of_decide_eq_true (by kernel_rfl)) (by unfold Func.isWrapper; first | (rw [if_pos (by decide +kernel)]; kernel_rfl) | (rw [if_neg (by decide +kernel)]; exact ⟨rfl, rfl⟩))
    (fun os started H enc _ => none_lifted os started H enc)

set_option maxRecDepth 100000 in
theorem joins_lifted (os : Os) (started : os.Started) (H : Type) (enc : TypeId × Value → H) :
    ReturnsInHanded {} Try.checked os 3 .any (Rows.kindJoinsSpec.pre6 enc Try.prog Try.f3 Rows.kindJoinsRow.domain false) (Rows.kindJoinsSpec.post enc Try.prog Try.f3 false true false false) := by
  refine law_lifted (C := Try.checked) own started (by kernel_rfl) Try.func3
    (ChangeSpec.witness6 (enc := enc) (C := Try.checked) false ⟨#[], #[.agg #[.int .i64 0, .int .i64 0], .agg #[.int .i64 0, .int .i64 0], .agg #[.int .i64 0, .int .i64 0]], []⟩ 8 (by kernel_rfl) (by kernel_rfl) (by kernel_rfl) (by kernel_rfl))
    [3, 23] (by kernel_rfl) (by kernel_rfl) (tb := 4) rfl Try.underlying4 rfl ?_ laidO ?_
  · intro ds h
    obtain ⟨a, b, c, rfl⟩ := len3 h
    rfl
  · intro trees h ht
    obtain ⟨a, b, c, rfl⟩ := len3 h
    obtain ⟨m, x, rfl⟩ := ty23 (ht 0 23 a rfl rfl)
    obtain ⟨n, y, rfl⟩ := ty23 (ht 1 23 b rfl rfl)
    obtain ⟨o, z, rfl⟩ := ty23 (ht 2 23 c rfl rfl)
    exact c3 m x n y o z

theorem joins_holds : Rows.KindJoinsSaid :=
  OpenClaim.holds_of_wide 3 Try.f3 rfl rfl rfl rfl rfl rfl rfl ⟨rfl, rfl, rfl, rfl, rfl⟩ rfl rfl rfl rfl rfl (by kernel_rfl) Try.func3 (by kernel_rfl)
    (of_decide_eq_true (by kernel_rfl)) (by unfold Func.isWrapper; first | (rw [if_pos (by decide +kernel)]; kernel_rfl) | (rw [if_neg (by decide +kernel)]; exact ⟨rfl, rfl⟩))
    (fun os started H enc _ => joins_lifted os started H enc)

set_option maxRecDepth 100000 in
theorem splits_lifted (os : Os) (started : os.Started) (H : Type) (enc : TypeId × Value → H) :
    ReturnsInHanded {} Try.checked os 4 .any (Rows.kindSplitsSpec.pre6 enc Try.prog Try.f4 Rows.kindSplitsRow.domain false) (Rows.kindSplitsSpec.post enc Try.prog Try.f4 false true false false) := by
  refine law_lifted (C := Try.checked) own started (by kernel_rfl) Try.func4
    (ChangeSpec.witness6 (enc := enc) (C := Try.checked) false ⟨#[], #[.agg #[.int .i64 0, .int .i64 0], .int .i64 0, .agg #[.int .i64 0, .bool false, .slice none 0 0, .string ⟨#[]⟩, .int .i64 0, .slice none 0 0]], []⟩ 8 (by kernel_rfl) (by kernel_rfl) (by kernel_rfl) (by kernel_rfl))
    [3, 4, 9, 23, 31, 33, 34, 36, 56] (by kernel_rfl) (by kernel_rfl) (tb := 4) rfl Try.underlying4 rfl ?_ laidO ?_
  · intro ds h
    obtain ⟨a, b, c, rfl⟩ := len3 h
    rfl
  · intro trees h ht
    obtain ⟨a, b, c, rfl⟩ := len3 h
    obtain ⟨m, x, rfl⟩ := ty23 (ht 0 23 a rfl rfl)
    obtain ⟨y, rfl⟩ := ty3 (ht 1 3 b rfl rfl)
    have h36 : T36 c := ht 2 36 c rfl rfl
    obtain ⟨kd, neg, ls, t, n, ks, rfl, _⟩ := ty36 h36
    exact c4 m x y kd neg ls t n ks h36

theorem splits_holds : Rows.KindSplitsSaid :=
  OpenClaim.holds_of_wide 4 Try.f4 rfl rfl rfl rfl rfl rfl rfl ⟨rfl, rfl, rfl, rfl, rfl⟩ rfl rfl rfl rfl rfl (by kernel_rfl) Try.func4 (by kernel_rfl)
    (of_decide_eq_true (by kernel_rfl)) (by unfold Func.isWrapper; first | (rw [if_pos (by decide +kernel)]; kernel_rfl) | (rw [if_neg (by decide +kernel)]; exact ⟨rfl, rfl⟩))
    (fun os started H enc _ => splits_lifted os started H enc)
end Go.Proofs.Ytbobkddnaggmeaa
