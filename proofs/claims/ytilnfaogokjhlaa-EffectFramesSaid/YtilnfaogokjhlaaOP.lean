/- A part of the proof: a logic for programs of this kind, proved sound over the model; contracts of functions; plain laws. -/
import Derived.Test.YtilnfaogokjhlaaON
set_option linter.all false
open Go Go.Proofs
namespace GoL
set_option linter.unusedVariables false
set_option linter.unusedSimpArgs false
set_option maxRecDepth 8000
attribute [local irreducible] wC
theorem sp31_ok : SpOk Try.prog sp31 := spNil_ok
theorem c31 (op : Int)  : CallP Try.prog 31 [.int .i64 op] (.str (sigS op)) := by
  refine call_plain sp31_ok Try.func31 Try.ntmps31 (by kernel_rfl) ((n31 op _).mpr ?_)
  (repeat' (first | (refine And.intro ?_ ?_) | (intro x hx; subst hx) | (intro _))) <;> (first | rfl | (simp only [sigS, *, if_true, if_false, Bool.false_eq_true, cond_true, cond_false, ↓reduceIte]; done) | (simp only [sigS, *, if_true, if_false, Bool.false_eq_true, cond_true, cond_false, ↓reduceIte]; first | rfl | (simp; done)) | skip)
theorem b31_ok (args : List V) (k : V → Prop) (h : b31 args k) : ∃ r, CallP Try.prog 31 args r ∧ k r := by
  unfold b31 at h
  split at h
  · exact ⟨_, c31 _ , h⟩
  · exact h.elim
theorem sp20_ok : SpOk Try.prog sp20 := spNil_ok
theorem c20 (op : Int)  : CallP Try.prog 20 [.int .i64 op] (.bool (endS op)) := by
  refine call_plain sp20_ok Try.func20 Try.ntmps20 (by kernel_rfl) ((n20 op _).mpr ?_)
  (repeat' (first | (refine And.intro ?_ ?_) | (intro x hx; subst hx) | (intro _))) <;> (first | rfl | (simp only [endS, *, if_true, if_false, Bool.false_eq_true, cond_true, cond_false, ↓reduceIte]; done) | (simp only [endS, *, if_true, if_false, Bool.false_eq_true, cond_true, cond_false, ↓reduceIte]; first | rfl | (simp; done)) | skip)
theorem b20_ok (args : List V) (k : V → Prop) (h : b20 args k) : ∃ r, CallP Try.prog 20 args r ∧ k r := by
  unfold b20 at h
  split at h
  · exact ⟨_, c20 _ , h⟩
  · exact h.elim
theorem sp54_ok : SpOk Try.prog sp54 := spNil_ok
theorem c54 (t n : Int) (ls : List V)  : CallP Try.prog 54 [.agg [.int .i64 t, .int .i64 n, .list false ls]] (.bool (plainB t n ls)) := by
  refine call_plain sp54_ok Try.func54 Try.ntmps54 (by kernel_rfl) ((n54 t n ls _).mpr ?_)
  (repeat' (first | (refine And.intro ?_ ?_) | (intro x hx; subst hx) | (intro _))) <;> (first | rfl | (simp only [plainB, *, if_true, if_false, Bool.false_eq_true, cond_true, cond_false, ↓reduceIte]; done) | (simp only [plainB, *, if_true, if_false, Bool.false_eq_true, cond_true, cond_false, ↓reduceIte]; first | rfl | (simp; done)) | skip)
theorem b54_ok (args : List V) (k : V → Prop) (h : b54 args k) : ∃ r, CallP Try.prog 54 args r ∧ k r := by
  unfold b54 at h
  split at h
  · exact ⟨_, c54 _ _ _ , h⟩
  · exact h.elim
theorem sp56_ok : SpOk Try.prog sp56 := spNil_ok
theorem c56 (t n : Int) (ls : List V)  : CallP Try.prog 56 [.agg [.int .i64 t, .int .i64 n, .list false ls]] (.bool (regB t n)) := by
  refine call_plain sp56_ok Try.func56 Try.ntmps56 (by kernel_rfl) ((n56 t n ls _).mpr ?_)
  (repeat' (first | (refine And.intro ?_ ?_) | (intro x hx; subst hx) | (intro _))) <;> (first | rfl | (simp only [regB, *, if_true, if_false, Bool.false_eq_true, cond_true, cond_false, ↓reduceIte]; done) | (simp only [regB, *, if_true, if_false, Bool.false_eq_true, cond_true, cond_false, ↓reduceIte]; first | rfl | (simp; done)) | skip)
theorem b56_ok (args : List V) (k : V → Prop) (h : b56 args k) : ∃ r, CallP Try.prog 56 args r ∧ k r := by
  unfold b56 at h
  split at h
  · exact ⟨_, c56 _ _ _ , h⟩
  · exact h.elim
theorem sp55_ok : SpOk Try.prog sp55 := spAdd_ok b56_ok (spNil_ok)
theorem c55 (t n : Int) (ls : List V)  : CallP Try.prog 55 [.agg [.int .i64 t, .int .i64 n, .list false ls]] (.bool (srcB t n)) := by
  refine call_plain sp55_ok Try.func55 Try.ntmps55 (by kernel_rfl) ((n55 t n ls _).mpr ?_)
  (repeat' (first | (refine And.intro ?_ ?_) | (intro x hx; subst hx) | (intro _))) <;> (first | rfl | (simp only [srcB, *, if_true, if_false, Bool.false_eq_true, cond_true, cond_false, ↓reduceIte]; done) | (simp only [srcB, *, if_true, if_false, Bool.false_eq_true, cond_true, cond_false, ↓reduceIte]; first | rfl | (simp; done)) | skip)
theorem b55_ok (args : List V) (k : V → Prop) (h : b55 args k) : ∃ r, CallP Try.prog 55 args r ∧ k r := by
  unfold b55 at h
  split at h
  · exact ⟨_, c55 _ _ _ , h⟩
  · exact h.elim
theorem sp13_ok : SpOk Try.prog sp13 := spNil_ok
theorem c13 (n : Int)  : CallP Try.prog 13 [.int .i64 n] (.agg [.int .i64 2, .int .i64 n, .list false []]) := by
  refine call_plain sp13_ok Try.func13 Try.ntmps13 (by kernel_rfl) ((n13 n _).mpr ?_)
  rfl
theorem b13_ok (args : List V) (k : V → Prop) (h : b13 args k) : ∃ r, CallP Try.prog 13 args r ∧ k r := by
  unfold b13 at h
  split at h
  · exact ⟨_, c13 _ , h⟩
  · exact h.elim
theorem sp17_ok : SpOk Try.prog sp17 := spNil_ok
theorem c17 (n : Int)  : CallP Try.prog 17 [.int .i64 n] (.agg [.int .i64 4, .int .i64 n, .list false []]) := by
  refine call_plain sp17_ok Try.func17 Try.ntmps17 (by kernel_rfl) ((n17 n _).mpr ?_)
  rfl
theorem b17_ok (args : List V) (k : V → Prop) (h : b17 args k) : ∃ r, CallP Try.prog 17 args r ∧ k r := by
  unfold b17 at h
  split at h
  · exact ⟨_, c17 _ , h⟩
  · exact h.elim
theorem sp12_ok : SpOk Try.prog sp12 := spNil_ok
theorem c12 (n : Int)  : CallP Try.prog 12 [.int .i64 n] (.agg [.int .i64 3, .int .i64 n, .list false []]) := by
  refine call_plain sp12_ok Try.func12 Try.ntmps12 (by kernel_rfl) ((n12 n _).mpr ?_)
  rfl
theorem b12_ok (args : List V) (k : V → Prop) (h : b12 args k) : ∃ r, CallP Try.prog 12 args r ∧ k r := by
  unfold b12 at h
  split at h
  · exact ⟨_, c12 _ , h⟩
  · exact h.elim
theorem sp18_ok : SpOk Try.prog sp18 := spNil_ok
theorem c18 (n : Int)  : CallP Try.prog 18 [.int .i64 n] (.agg [.int .i64 5, .int .i64 n, .list false []]) := by
  refine call_plain sp18_ok Try.func18 Try.ntmps18 (by kernel_rfl) ((n18 n _).mpr ?_)
  rfl
theorem b18_ok (args : List V) (k : V → Prop) (h : b18 args k) : ∃ r, CallP Try.prog 18 args r ∧ k r := by
  unfold b18 at h
  split at h
  · exact ⟨_, c18 _ , h⟩
  · exact h.elim
theorem sp9_ok : SpOk Try.prog sp9 := spNil_ok
theorem c9 (n : Int)  : CallP Try.prog 9 [.int .i64 n] (.agg [.int .i64 0, .int .i64 n, .list false []]) := by
  refine call_plain sp9_ok Try.func9 Try.ntmps9 (by kernel_rfl) ((n9 n _).mpr ?_)
  rfl
theorem b9_ok (args : List V) (k : V → Prop) (h : b9 args k) : ∃ r, CallP Try.prog 9 args r ∧ k r := by
  unfold b9 at h
  split at h
  · exact ⟨_, c9 _ , h⟩
  · exact h.elim
theorem sp6_ok : SpOk Try.prog sp6 := spNil_ok
theorem c6 (x n : Int) (hp : n ≠ 0) : CallP Try.prog 6 [.int .i64 x, .int .i64 n] (.int .i64 (place x n)) := by
  refine call_plain sp6_ok Try.func6 Try.ntmps6 (by kernel_rfl) ((n6 x n _).mpr ?_)
  refine ⟨⟨rfl, hp⟩, fun _ => ?_⟩
  (repeat' (first | (refine And.intro ?_ ?_) | (intro x hx; subst hx) | (intro _))) <;> (first | rfl | (simp only [place, *, if_true, if_false, Bool.false_eq_true, cond_true, cond_false, ↓reduceIte]; done) | (simp only [place, *, if_true, if_false, Bool.false_eq_true, cond_true, cond_false, ↓reduceIte]; first | rfl | (simp; done)) | skip)
theorem b6_ok (args : List V) (k : V → Prop) (h : b6 args k) : ∃ r, CallP Try.prog 6 args r ∧ k r := by
  unfold b6 at h
  split at h
  · exact ⟨_, c6 _ _ h.1, h.2⟩
  · exact h.elim
theorem sp8_ok : SpOk Try.prog sp8 := spNil_ok
theorem c8 (op : Int) (xs : List V) (hp : (∀ v, List.Mem v xs → V.sz v = 3) ∧ xs.length ≤ 1000) : CallP Try.prog 8 [.int .i64 op, .list false xs] (.agg [.int .i64 op, .list false xs]) := by
  refine call_plain sp8_ok Try.func8 Try.ntmps8 (by kernel_rfl) ((n8 op xs _).mpr ?_)
  refine ⟨⟨⟨rfl, trivial⟩, hp.1, rfl, rfl, 40, rfl, by have := hp.2; omega, by have := hp.2; omega⟩, fun _ => ⟨rfl, rfl⟩⟩
theorem b8_ok (args : List V) (k : V → Prop) (h : b8 args k) : ∃ r, CallP Try.prog 8 args r ∧ k r := by
  unfold b8 at h
  split at h
  · exact ⟨_, c8 _ _ h.1, h.2⟩
  · exact h.elim
theorem drop_dec {xs : List V} {i : Int} (h0 : 0 ≤ i) (h : i < xs.length) : xs.drop i.toNat = getV xs i :: xs.drop (i + 1).toNat := by
  have hb : i.toNat < xs.length := by omega
  have e : (i + 1).toNat = i.toNat + 1 := by omega
  rw [e, List.drop_eq_getElem_cons hb]
  unfold getV
  rw [List.getD_eq_getElem?_getD, List.getElem?_eq_getElem hb]
  rfl
end GoL
