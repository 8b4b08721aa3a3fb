/- A part of the proof: a logic for programs of this kind, proved sound over the model; contracts of functions; plain laws. -/
import Derived.Test.YtjnagpmhkpkngaaTN
set_option linter.all false
open Go Go.Proofs
namespace GoL
set_option linter.unusedVariables false
set_option linter.unusedSimpArgs false
set_option maxRecDepth 8000
theorem sp8_ok : SpOk Try.prog sp8 := spNil_ok
theorem c8 (op : Int)  : CallP Try.prog 8 [.int .i64 op] (.str (sigS op)) := by
  refine call_plain sp8_ok Try.func8 Try.ntmps8 (by kernel_rfl) ((n8 op _).mpr ?_)
  (repeat' (first | (refine And.intro ?_ ?_) | (intro x hx; subst hx) | (intro _))) <;> (first | rfl | (simp only [sigS, *, if_true, if_false, Bool.false_eq_true, cond_true, cond_false, ↓reduceIte]; done) | (simp only [sigS, *, if_true, if_false, Bool.false_eq_true, cond_true, cond_false, ↓reduceIte]; first | rfl | (simp; done)) | skip)
theorem b8_ok (args : List V) (k : V → Prop) (h : b8 args k) : ∃ r, CallP Try.prog 8 args r ∧ k r := by
  unfold b8 at h
  split at h
  · exact ⟨_, c8 _ , h⟩
  · exact h.elim
theorem sp12_ok : SpOk Try.prog sp12 := spNil_ok
theorem c12 (op : Int)  : CallP Try.prog 12 [.int .i64 op] (.bool (endS op)) := by
  refine call_plain sp12_ok Try.func12 Try.ntmps12 (by kernel_rfl) ((n12 op _).mpr ?_)
  (repeat' (first | (refine And.intro ?_ ?_) | (intro x hx; subst hx) | (intro _))) <;> (first | rfl | (simp only [endS, *, if_true, if_false, Bool.false_eq_true, cond_true, cond_false, ↓reduceIte]; done) | (simp only [endS, *, if_true, if_false, Bool.false_eq_true, cond_true, cond_false, ↓reduceIte]; first | rfl | (simp; done)) | skip)
theorem b12_ok (args : List V) (k : V → Prop) (h : b12 args k) : ∃ r, CallP Try.prog 12 args r ∧ k r := by
  unfold b12 at h
  split at h
  · exact ⟨_, c12 _ , h⟩
  · exact h.elim
theorem sp13_ok : SpOk Try.prog sp13 := spNil_ok
theorem c13 (op : Int)  : CallP Try.prog 13 [.int .i64 op] (.bool (endS op)) := by
  refine call_plain sp13_ok Try.func13 Try.ntmps13 (by kernel_rfl) ((n13 op _).mpr ?_)
  (repeat' (first | (refine And.intro ?_ ?_) | (intro x hx; subst hx) | (intro _))) <;> (first | rfl | (simp only [endS, *, if_true, if_false, Bool.false_eq_true, cond_true, cond_false, ↓reduceIte]; done) | (simp only [endS, *, if_true, if_false, Bool.false_eq_true, cond_true, cond_false, ↓reduceIte]; first | rfl | (simp; done)) | skip)
theorem b13_ok (args : List V) (k : V → Prop) (h : b13 args k) : ∃ r, CallP Try.prog 13 args r ∧ k r := by
  unfold b13 at h
  split at h
  · exact ⟨_, c13 _ , h⟩
  · exact h.elim
theorem sp28_ok : SpOk Try.prog sp28 := spNil_ok
theorem c28 : CallP Try.prog 28 [] (.list false sigsV) :=
  call_plain (hint := none) (N := 2) (fn := Try.f28) (args := []) (r := .list false sigsV) (Sp := sp28) (hints := noHint) (prs := prsOf []) sp28_ok Try.func28 Try.ntmps28 (by kernel_rfl) (by
    rw [n28]
    kernel_rfl)
theorem b28_ok (args : List V) (k : V → Prop) (h : b28 args k) : ∃ r, CallP Try.prog 28 args r ∧ k r := by
  unfold b28 at h
  split at h
  · exact ⟨_, c28  , h⟩
  · exact h.elim
theorem sp29_ok : SpOk Try.prog sp29 := spNil_ok
theorem c29 : CallP Try.prog 29 [] (.list false namesV) :=
  call_plain (hint := none) (N := 2) (fn := Try.f29) (args := []) (r := .list false namesV) (Sp := sp29) (hints := noHint) (prs := prsOf []) sp29_ok Try.func29 Try.ntmps29 (by kernel_rfl) (by
    rw [n29]
    kernel_rfl)
theorem b29_ok (args : List V) (k : V → Prop) (h : b29 args k) : ∃ r, CallP Try.prog 29 args r ∧ k r := by
  unfold b29 at h
  split at h
  · exact ⟨_, c29  , h⟩
  · exact h.elim
theorem sp9_ok : SpOk Try.prog sp9 := spAdd_ok b28_ok (spNil_ok)
theorem c9 (op : Int)  : CallP Try.prog 9 [.int .i64 op] (.str (sig9 op)) := by
  refine call_plain sp9_ok Try.func9 Try.ntmps9 (by kernel_rfl) ((n9 op _).mpr ?_)
  intro x h1; subst h1
  refine ⟨fun h1 => by simp only [sig9, h1, if_true], fun h1 x h2 => ?_⟩
  subst h2
  refine ⟨fun h2 => by simp only [sig9, h1, h2, if_true, if_false, Bool.false_eq_true], fun h2 y hy => ?_⟩
  simp only [decide_eq_false_iff_not] at h1 h2
  have hy2 : y = op - 1 := by rw [hy, IntKind.wrap_i64]; omega
  subst hy2
  have hl : sigsL.length = 51 := rfl
  have hv : sigsV.length = 51 := rfl
  have hg : getV sigsV (op - 1) = .str (sigsL.getD (op - 1).toNat []) := by
    have hb : (op - 1).toNat < sigsL.length := by omega
    unfold getV sigsV
    rw [List.getD_eq_getElem?_getD, List.getD_eq_getElem?_getD, List.getElem?_map, List.getElem?_eq_getElem hb]
    rfl
  have h1' : decide (op < 1) = false := by simpa using h1
  have h2' : decide (op > 51) = false := by simpa using h2
  refine ⟨by omega, by omega, sigsL.getD (op - 1).toNat [], hg, ?_⟩
  simp only [sig9, h1', h2', if_false, Bool.false_eq_true]
theorem b9_ok (args : List V) (k : V → Prop) (h : b9 args k) : ∃ r, CallP Try.prog 9 args r ∧ k r := by
  unfold b9 at h
  split at h
  · exact ⟨_, c9 _ , h⟩
  · exact h.elim
theorem sp11_ok : SpOk Try.prog sp11 := spAdd_ok b29_ok (spNil_ok)
theorem c11 (op : Int)  : CallP Try.prog 11 [.int .i64 op] (.str (name9 op)) := by
  refine call_plain sp11_ok Try.func11 Try.ntmps11 (by kernel_rfl) ((n11 op _).mpr ?_)
  intro x h1; subst h1
  refine ⟨fun h1 => by simp only [name9, h1, if_true], fun h1 x h2 => ?_⟩
  subst h2
  refine ⟨fun h2 => by simp only [name9, h1, h2, if_true, if_false, Bool.false_eq_true], fun h2 y hy => ?_⟩
  simp only [decide_eq_false_iff_not] at h1 h2
  have hy2 : y = op - 1 := by rw [hy, IntKind.wrap_i64]; omega
  subst hy2
  have hl : namesL.length = 51 := rfl
  have hv : namesV.length = 51 := rfl
  have hg : getV namesV (op - 1) = .str (namesL.getD (op - 1).toNat []) := by
    have hb : (op - 1).toNat < namesL.length := by omega
    unfold getV namesV
    rw [List.getD_eq_getElem?_getD, List.getD_eq_getElem?_getD, List.getElem?_map, List.getElem?_eq_getElem hb]
    rfl
  have h1' : decide (op < 1) = false := by simpa using h1
  have h2' : decide (op > 51) = false := by simpa using h2
  refine ⟨by omega, by omega, namesL.getD (op - 1).toNat [], hg, ?_⟩
  simp only [name9, h1', h2', if_false, Bool.false_eq_true]
theorem b11_ok (args : List V) (k : V → Prop) (h : b11 args k) : ∃ r, CallP Try.prog 11 args r ∧ k r := by
  unfold b11 at h
  split at h
  · exact ⟨_, c11 _ , h⟩
  · exact h.elim
theorem sp36_ok : SpOk Try.prog sp36 := spNil_ok
theorem c36 (t n : Int) (ls : List V)  : CallP Try.prog 36 [.agg [.int .i64 t, .int .i64 n, .list false ls]] (.bool (plainB t n ls)) := by
  refine call_plain sp36_ok Try.func36 Try.ntmps36 (by kernel_rfl) ((n36 t n ls _).mpr ?_)
  (repeat' (first | (refine And.intro ?_ ?_) | (intro x hx; subst hx) | (intro _))) <;> (first | rfl | (simp only [plainB, *, if_true, if_false, Bool.false_eq_true, cond_true, cond_false, ↓reduceIte]; done) | (simp only [plainB, *, if_true, if_false, Bool.false_eq_true, cond_true, cond_false, ↓reduceIte]; first | rfl | (simp; done)) | skip)
theorem b36_ok (args : List V) (k : V → Prop) (h : b36 args k) : ∃ r, CallP Try.prog 36 args r ∧ k r := by
  unfold b36 at h
  split at h
  · exact ⟨_, c36 _ _ _ , h⟩
  · exact h.elim
theorem sp38_ok : SpOk Try.prog sp38 := spNil_ok
theorem c38 (t n : Int) (ls : List V)  : CallP Try.prog 38 [.agg [.int .i64 t, .int .i64 n, .list false ls]] (.bool (regB t n)) := by
  refine call_plain sp38_ok Try.func38 Try.ntmps38 (by kernel_rfl) ((n38 t n ls _).mpr ?_)
  (repeat' (first | (refine And.intro ?_ ?_) | (intro x hx; subst hx) | (intro _))) <;> (first | rfl | (simp only [regB, *, if_true, if_false, Bool.false_eq_true, cond_true, cond_false, ↓reduceIte]; done) | (simp only [regB, *, if_true, if_false, Bool.false_eq_true, cond_true, cond_false, ↓reduceIte]; first | rfl | (simp; done)) | skip)
theorem b38_ok (args : List V) (k : V → Prop) (h : b38 args k) : ∃ r, CallP Try.prog 38 args r ∧ k r := by
  unfold b38 at h
  split at h
  · exact ⟨_, c38 _ _ _ , h⟩
  · exact h.elim
theorem sp37_ok : SpOk Try.prog sp37 := spAdd_ok b38_ok (spNil_ok)
theorem c37 (t n : Int) (ls : List V)  : CallP Try.prog 37 [.agg [.int .i64 t, .int .i64 n, .list false ls]] (.bool (srcB t n)) := by
  refine call_plain sp37_ok Try.func37 Try.ntmps37 (by kernel_rfl) ((n37 t n ls _).mpr ?_)
  (repeat' (first | (refine And.intro ?_ ?_) | (intro x hx; subst hx) | (intro _))) <;> (first | rfl | (simp only [srcB, *, if_true, if_false, Bool.false_eq_true, cond_true, cond_false, ↓reduceIte]; done) | (simp only [srcB, *, if_true, if_false, Bool.false_eq_true, cond_true, cond_false, ↓reduceIte]; first | rfl | (simp; done)) | skip)
theorem b37_ok (args : List V) (k : V → Prop) (h : b37 args k) : ∃ r, CallP Try.prog 37 args r ∧ k r := by
  unfold b37 at h
  split at h
  · exact ⟨_, c37 _ _ _ , h⟩
  · exact h.elim
theorem sp16_ok : SpOk Try.prog sp16 := spNil_ok
theorem c16 (n : Int)  : CallP Try.prog 16 [.int .i64 n] (.agg [.int .i64 1, .int .i64 n, .list false []]) := by
  refine call_plain sp16_ok Try.func16 Try.ntmps16 (by kernel_rfl) ((n16 n _).mpr ?_)
  rfl
theorem b16_ok (args : List V) (k : V → Prop) (h : b16 args k) : ∃ r, CallP Try.prog 16 args r ∧ k r := by
  unfold b16 at h
  split at h
  · exact ⟨_, c16 _ , h⟩
  · exact h.elim
theorem sp17_ok : SpOk Try.prog sp17 := spNil_ok
theorem c17 (n : Int)  : CallP Try.prog 17 [.int .i64 n] (.agg [.int .i64 5, .int .i64 n, .list false []]) := by
  refine call_plain sp17_ok Try.func17 Try.ntmps17 (by kernel_rfl) ((n17 n _).mpr ?_)
  rfl
theorem b17_ok (args : List V) (k : V → Prop) (h : b17 args k) : ∃ r, CallP Try.prog 17 args r ∧ k r := by
  unfold b17 at h
  split at h
  · exact ⟨_, c17 _ , h⟩
  · exact h.elim
theorem sp21_ok : SpOk Try.prog sp21 := spNil_ok
theorem c21 (n : Int)  : CallP Try.prog 21 [.int .i64 n] (.agg [.int .i64 3, .int .i64 n, .list false []]) := by
  refine call_plain sp21_ok Try.func21 Try.ntmps21 (by kernel_rfl) ((n21 n _).mpr ?_)
  rfl
theorem b21_ok (args : List V) (k : V → Prop) (h : b21 args k) : ∃ r, CallP Try.prog 21 args r ∧ k r := by
  unfold b21 at h
  split at h
  · exact ⟨_, c21 _ , h⟩
  · exact h.elim
theorem sp27_ok : SpOk Try.prog sp27 := spNil_ok
theorem c27 (n : Int)  : CallP Try.prog 27 [.int .i64 n] (.agg [.int .i64 0, .int .i64 n, .list false []]) := by
  refine call_plain sp27_ok Try.func27 Try.ntmps27 (by kernel_rfl) ((n27 n _).mpr ?_)
  rfl
theorem b27_ok (args : List V) (k : V → Prop) (h : b27 args k) : ∃ r, CallP Try.prog 27 args r ∧ k r := by
  unfold b27 at h
  split at h
  · exact ⟨_, c27 _ , h⟩
  · exact h.elim
theorem sp18_ok : SpOk Try.prog sp18 := spNil_ok
theorem c18 (x n : Int) (hp : n ≠ 0) : CallP Try.prog 18 [.int .i64 x, .int .i64 n] (.int .i64 (place x n)) := by
  refine call_plain sp18_ok Try.func18 Try.ntmps18 (by kernel_rfl) ((n18 x n _).mpr ?_)
  refine ⟨⟨rfl, hp⟩, fun _ => ?_⟩
  (repeat' (first | (refine And.intro ?_ ?_) | (intro x hx; subst hx) | (intro _))) <;> (first | rfl | (simp only [place, *, if_true, if_false, Bool.false_eq_true, cond_true, cond_false, ↓reduceIte]; done) | (simp only [place, *, if_true, if_false, Bool.false_eq_true, cond_true, cond_false, ↓reduceIte]; first | rfl | (simp; done)) | skip)
theorem b18_ok (args : List V) (k : V → Prop) (h : b18 args k) : ∃ r, CallP Try.prog 18 args r ∧ k r := by
  unfold b18 at h
  split at h
  · exact ⟨_, c18 _ _ h.1, h.2⟩
  · exact h.elim
theorem sp20_ok : SpOk Try.prog sp20 := spNil_ok
theorem c20 (op : Int) (xs : List V) (hp : (∀ v, List.Mem v xs → V.sz v = 3) ∧ xs.length ≤ 1000) : CallP Try.prog 20 [.int .i64 op, .list false xs] (.agg [.int .i64 op, .list false xs]) := by
  refine call_plain sp20_ok Try.func20 Try.ntmps20 (by kernel_rfl) ((n20 op xs _).mpr ?_)
  refine ⟨⟨⟨rfl, trivial⟩, hp.1, rfl, rfl, 40, rfl, by have := hp.2; omega, by have := hp.2; omega⟩, fun _ => ⟨rfl, rfl⟩⟩
theorem b20_ok (args : List V) (k : V → Prop) (h : b20 args k) : ∃ r, CallP Try.prog 20 args r ∧ k r := by
  unfold b20 at h
  split at h
  · exact ⟨_, c20 _ _ h.1, h.2⟩
  · exact h.elim
theorem sp30_ok : SpOk Try.prog sp30 := spAdd_ok b36_ok (spAdd_ok b37_ok (spAdd_ok b38_ok (spNil_ok)))
theorem c30 (c t n : Int) (ls : List V) (hp : (c == 83) = false ∧ (c == 80) = false) : CallP Try.prog 30 [.int .u8 c, .agg [.int .i64 t, .int .i64 n, .list false ls]] (.bool (fit1 c t n ls)) := by
  refine call_plain sp30_ok Try.func30 Try.ntmps30 (by kernel_rfl) ((n30 c t n ls _).mpr ?_)
  obtain ⟨hp1, hp2⟩ := hp
  (repeat' (first | (refine And.intro ?_ ?_) | (intro x hx; subst hx) | (intro _))) <;> (first | rfl | (simp only [fit1, *, if_true, if_false, Bool.false_eq_true, cond_true, cond_false, ↓reduceIte]; done) | (simp only [fit1, *, if_true, if_false, Bool.false_eq_true, cond_true, cond_false, ↓reduceIte]; first | rfl | (simp; done)) | (exfalso; simp_all; done) | skip)
theorem b30_ok (args : List V) (k : V → Prop) (h : b30 args k) : ∃ r, CallP Try.prog 30 args r ∧ k r := by
  unfold b30 at h
  split at h
  · exact ⟨_, c30 _ _ _ _ h.1, h.2⟩
  · exact h.elim
theorem c10_0 : CallP Try.prog 10 [.int .i64 (-2)] (.str (name9 (-2))) := by
  have h : wC Try.prog sp10 14 noHint (prsOf []) noLs 0 (bodyOf Try.f10) 1000 (initL [.int .i64 (-2)] 0) [] (finK Try.prog none Try.f10.results.toList (.str (name9 (-2)))) := by
    refine (n10_0 _).mpr ?_
    intro x h1; subst h1
    refine ⟨fun h1 => ?_, fun h1 x h2 => ?_⟩
    · first | rfl | (exact absurd h1 (by decide))
    · subst h2
      refine ⟨fun h2 => ?_, fun h2 => ?_⟩
      · first | rfl | (exact absurd h2 (by decide))
      · first | (exact absurd h1 (by decide)) | (exact absurd h2 (by decide)) | exact ⟨by decide, by decide, rfl⟩
  exact call_plain (Sp := sp10) spNil_ok Try.func10 Try.ntmps10 (by kernel_rfl) h
theorem c10_1 : CallP Try.prog 10 [.int .i64 (-1)] (.str (name9 (-1))) := by
  have h : wC Try.prog sp10 14 noHint (prsOf []) noLs 0 (bodyOf Try.f10) 1000 (initL [.int .i64 (-1)] 0) [] (finK Try.prog none Try.f10.results.toList (.str (name9 (-1)))) := by
    refine (n10_1 _).mpr ?_
    intro x h1; subst h1
    refine ⟨fun h1 => ?_, fun h1 x h2 => ?_⟩
    · first | rfl | (exact absurd h1 (by decide))
    · subst h2
      refine ⟨fun h2 => ?_, fun h2 => ?_⟩
      · first | rfl | (exact absurd h2 (by decide))
      · first | (exact absurd h1 (by decide)) | (exact absurd h2 (by decide)) | exact ⟨by decide, by decide, rfl⟩
  exact call_plain (Sp := sp10) spNil_ok Try.func10 Try.ntmps10 (by kernel_rfl) h
theorem c10_2 : CallP Try.prog 10 [.int .i64 0] (.str (name9 0)) := by
  have h : wC Try.prog sp10 14 noHint (prsOf []) noLs 0 (bodyOf Try.f10) 1000 (initL [.int .i64 0] 0) [] (finK Try.prog none Try.f10.results.toList (.str (name9 0))) := by
    refine (n10_2 _).mpr ?_
    intro x h1; subst h1
    refine ⟨fun h1 => ?_, fun h1 x h2 => ?_⟩
    · first | rfl | (exact absurd h1 (by decide))
    · subst h2
      refine ⟨fun h2 => ?_, fun h2 => ?_⟩
      · first | rfl | (exact absurd h2 (by decide))
      · first | (exact absurd h1 (by decide)) | (exact absurd h2 (by decide)) | exact ⟨by decide, by decide, rfl⟩
  exact call_plain (Sp := sp10) spNil_ok Try.func10 Try.ntmps10 (by kernel_rfl) h
theorem c10_3 : CallP Try.prog 10 [.int .i64 1] (.str (name9 1)) := by
  have h : wC Try.prog sp10 14 noHint (prsOf []) noLs 0 (bodyOf Try.f10) 1000 (initL [.int .i64 1] 0) [] (finK Try.prog none Try.f10.results.toList (.str (name9 1))) := by
    refine (n10_3 _).mpr ?_
    intro x h1; subst h1
    refine ⟨fun h1 => ?_, fun h1 x h2 => ?_⟩
    · first | rfl | (exact absurd h1 (by decide))
    · subst h2
      refine ⟨fun h2 => ?_, fun h2 => ?_⟩
      · first | rfl | (exact absurd h2 (by decide))
      · first | (exact absurd h1 (by decide)) | (exact absurd h2 (by decide)) | exact ⟨by decide, by decide, rfl⟩
  exact call_plain (Sp := sp10) spNil_ok Try.func10 Try.ntmps10 (by kernel_rfl) h
theorem c10_4 : CallP Try.prog 10 [.int .i64 2] (.str (name9 2)) := by
  have h : wC Try.prog sp10 14 noHint (prsOf []) noLs 0 (bodyOf Try.f10) 1000 (initL [.int .i64 2] 0) [] (finK Try.prog none Try.f10.results.toList (.str (name9 2))) := by
    refine (n10_4 _).mpr ?_
    intro x h1; subst h1
    refine ⟨fun h1 => ?_, fun h1 x h2 => ?_⟩
    · first | rfl | (exact absurd h1 (by decide))
    · subst h2
      refine ⟨fun h2 => ?_, fun h2 => ?_⟩
      · first | rfl | (exact absurd h2 (by decide))
      · first | (exact absurd h1 (by decide)) | (exact absurd h2 (by decide)) | exact ⟨by decide, by decide, rfl⟩
  exact call_plain (Sp := sp10) spNil_ok Try.func10 Try.ntmps10 (by kernel_rfl) h
theorem c10_5 : CallP Try.prog 10 [.int .i64 3] (.str (name9 3)) := by
  have h : wC Try.prog sp10 14 noHint (prsOf []) noLs 0 (bodyOf Try.f10) 1000 (initL [.int .i64 3] 0) [] (finK Try.prog none Try.f10.results.toList (.str (name9 3))) := by
    refine (n10_5 _).mpr ?_
    intro x h1; subst h1
    refine ⟨fun h1 => ?_, fun h1 x h2 => ?_⟩
    · first | rfl | (exact absurd h1 (by decide))
    · subst h2
      refine ⟨fun h2 => ?_, fun h2 => ?_⟩
      · first | rfl | (exact absurd h2 (by decide))
      · first | (exact absurd h1 (by decide)) | (exact absurd h2 (by decide)) | exact ⟨by decide, by decide, rfl⟩
  exact call_plain (Sp := sp10) spNil_ok Try.func10 Try.ntmps10 (by kernel_rfl) h
theorem c10_6 : CallP Try.prog 10 [.int .i64 4] (.str (name9 4)) := by
  have h : wC Try.prog sp10 14 noHint (prsOf []) noLs 0 (bodyOf Try.f10) 1000 (initL [.int .i64 4] 0) [] (finK Try.prog none Try.f10.results.toList (.str (name9 4))) := by
    refine (n10_6 _).mpr ?_
    intro x h1; subst h1
    refine ⟨fun h1 => ?_, fun h1 x h2 => ?_⟩
    · first | rfl | (exact absurd h1 (by decide))
    · subst h2
      refine ⟨fun h2 => ?_, fun h2 => ?_⟩
      · first | rfl | (exact absurd h2 (by decide))
      · first | (exact absurd h1 (by decide)) | (exact absurd h2 (by decide)) | exact ⟨by decide, by decide, rfl⟩
  exact call_plain (Sp := sp10) spNil_ok Try.func10 Try.ntmps10 (by kernel_rfl) h
theorem c10_7 : CallP Try.prog 10 [.int .i64 5] (.str (name9 5)) := by
  have h : wC Try.prog sp10 14 noHint (prsOf []) noLs 0 (bodyOf Try.f10) 1000 (initL [.int .i64 5] 0) [] (finK Try.prog none Try.f10.results.toList (.str (name9 5))) := by
    refine (n10_7 _).mpr ?_
    intro x h1; subst h1
    refine ⟨fun h1 => ?_, fun h1 x h2 => ?_⟩
    · first | rfl | (exact absurd h1 (by decide))
    · subst h2
      refine ⟨fun h2 => ?_, fun h2 => ?_⟩
      · first | rfl | (exact absurd h2 (by decide))
      · first | (exact absurd h1 (by decide)) | (exact absurd h2 (by decide)) | exact ⟨by decide, by decide, rfl⟩
  exact call_plain (Sp := sp10) spNil_ok Try.func10 Try.ntmps10 (by kernel_rfl) h
theorem c10_8 : CallP Try.prog 10 [.int .i64 6] (.str (name9 6)) := by
  have h : wC Try.prog sp10 14 noHint (prsOf []) noLs 0 (bodyOf Try.f10) 1000 (initL [.int .i64 6] 0) [] (finK Try.prog none Try.f10.results.toList (.str (name9 6))) := by
    refine (n10_8 _).mpr ?_
    intro x h1; subst h1
    refine ⟨fun h1 => ?_, fun h1 x h2 => ?_⟩
    · first | rfl | (exact absurd h1 (by decide))
    · subst h2
      refine ⟨fun h2 => ?_, fun h2 => ?_⟩
      · first | rfl | (exact absurd h2 (by decide))
      · first | (exact absurd h1 (by decide)) | (exact absurd h2 (by decide)) | exact ⟨by decide, by decide, rfl⟩
  exact call_plain (Sp := sp10) spNil_ok Try.func10 Try.ntmps10 (by kernel_rfl) h
theorem c10_9 : CallP Try.prog 10 [.int .i64 7] (.str (name9 7)) := by
  have h : wC Try.prog sp10 14 noHint (prsOf []) noLs 0 (bodyOf Try.f10) 1000 (initL [.int .i64 7] 0) [] (finK Try.prog none Try.f10.results.toList (.str (name9 7))) := by
    refine (n10_9 _).mpr ?_
    intro x h1; subst h1
    refine ⟨fun h1 => ?_, fun h1 x h2 => ?_⟩
    · first | rfl | (exact absurd h1 (by decide))
    · subst h2
      refine ⟨fun h2 => ?_, fun h2 => ?_⟩
      · first | rfl | (exact absurd h2 (by decide))
      · first | (exact absurd h1 (by decide)) | (exact absurd h2 (by decide)) | exact ⟨by decide, by decide, rfl⟩
  exact call_plain (Sp := sp10) spNil_ok Try.func10 Try.ntmps10 (by kernel_rfl) h
theorem c10_10 : CallP Try.prog 10 [.int .i64 8] (.str (name9 8)) := by
  have h : wC Try.prog sp10 14 noHint (prsOf []) noLs 0 (bodyOf Try.f10) 1000 (initL [.int .i64 8] 0) [] (finK Try.prog none Try.f10.results.toList (.str (name9 8))) := by
    refine (n10_10 _).mpr ?_
    intro x h1; subst h1
    refine ⟨fun h1 => ?_, fun h1 x h2 => ?_⟩
    · first | rfl | (exact absurd h1 (by decide))
    · subst h2
      refine ⟨fun h2 => ?_, fun h2 => ?_⟩
      · first | rfl | (exact absurd h2 (by decide))
      · first | (exact absurd h1 (by decide)) | (exact absurd h2 (by decide)) | exact ⟨by decide, by decide, rfl⟩
  exact call_plain (Sp := sp10) spNil_ok Try.func10 Try.ntmps10 (by kernel_rfl) h
theorem c10_11 : CallP Try.prog 10 [.int .i64 9] (.str (name9 9)) := by
  have h : wC Try.prog sp10 14 noHint (prsOf []) noLs 0 (bodyOf Try.f10) 1000 (initL [.int .i64 9] 0) [] (finK Try.prog none Try.f10.results.toList (.str (name9 9))) := by
    refine (n10_11 _).mpr ?_
    intro x h1; subst h1
    refine ⟨fun h1 => ?_, fun h1 x h2 => ?_⟩
    · first | rfl | (exact absurd h1 (by decide))
    · subst h2
      refine ⟨fun h2 => ?_, fun h2 => ?_⟩
      · first | rfl | (exact absurd h2 (by decide))
      · first | (exact absurd h1 (by decide)) | (exact absurd h2 (by decide)) | exact ⟨by decide, by decide, rfl⟩
  exact call_plain (Sp := sp10) spNil_ok Try.func10 Try.ntmps10 (by kernel_rfl) h
theorem c10_12 : CallP Try.prog 10 [.int .i64 10] (.str (name9 10)) := by
  have h : wC Try.prog sp10 14 noHint (prsOf []) noLs 0 (bodyOf Try.f10) 1000 (initL [.int .i64 10] 0) [] (finK Try.prog none Try.f10.results.toList (.str (name9 10))) := by
    refine (n10_12 _).mpr ?_
    intro x h1; subst h1
    refine ⟨fun h1 => ?_, fun h1 x h2 => ?_⟩
    · first | rfl | (exact absurd h1 (by decide))
    · subst h2
      refine ⟨fun h2 => ?_, fun h2 => ?_⟩
      · first | rfl | (exact absurd h2 (by decide))
      · first | (exact absurd h1 (by decide)) | (exact absurd h2 (by decide)) | exact ⟨by decide, by decide, rfl⟩
  exact call_plain (Sp := sp10) spNil_ok Try.func10 Try.ntmps10 (by kernel_rfl) h
theorem c10_13 : CallP Try.prog 10 [.int .i64 11] (.str (name9 11)) := by
  have h : wC Try.prog sp10 14 noHint (prsOf []) noLs 0 (bodyOf Try.f10) 1000 (initL [.int .i64 11] 0) [] (finK Try.prog none Try.f10.results.toList (.str (name9 11))) := by
    refine (n10_13 _).mpr ?_
    intro x h1; subst h1
    refine ⟨fun h1 => ?_, fun h1 x h2 => ?_⟩
    · first | rfl | (exact absurd h1 (by decide))
    · subst h2
      refine ⟨fun h2 => ?_, fun h2 => ?_⟩
      · first | rfl | (exact absurd h2 (by decide))
      · first | (exact absurd h1 (by decide)) | (exact absurd h2 (by decide)) | exact ⟨by decide, by decide, rfl⟩
  exact call_plain (Sp := sp10) spNil_ok Try.func10 Try.ntmps10 (by kernel_rfl) h
theorem c10_14 : CallP Try.prog 10 [.int .i64 12] (.str (name9 12)) := by
  have h : wC Try.prog sp10 14 noHint (prsOf []) noLs 0 (bodyOf Try.f10) 1000 (initL [.int .i64 12] 0) [] (finK Try.prog none Try.f10.results.toList (.str (name9 12))) := by
    refine (n10_14 _).mpr ?_
    intro x h1; subst h1
    refine ⟨fun h1 => ?_, fun h1 x h2 => ?_⟩
    · first | rfl | (exact absurd h1 (by decide))
    · subst h2
      refine ⟨fun h2 => ?_, fun h2 => ?_⟩
      · first | rfl | (exact absurd h2 (by decide))
      · first | (exact absurd h1 (by decide)) | (exact absurd h2 (by decide)) | exact ⟨by decide, by decide, rfl⟩
  exact call_plain (Sp := sp10) spNil_ok Try.func10 Try.ntmps10 (by kernel_rfl) h
theorem c10_15 : CallP Try.prog 10 [.int .i64 13] (.str (name9 13)) := by
  have h : wC Try.prog sp10 14 noHint (prsOf []) noLs 0 (bodyOf Try.f10) 1000 (initL [.int .i64 13] 0) [] (finK Try.prog none Try.f10.results.toList (.str (name9 13))) := by
    refine (n10_15 _).mpr ?_
    intro x h1; subst h1
    refine ⟨fun h1 => ?_, fun h1 x h2 => ?_⟩
    · first | rfl | (exact absurd h1 (by decide))
    · subst h2
      refine ⟨fun h2 => ?_, fun h2 => ?_⟩
      · first | rfl | (exact absurd h2 (by decide))
      · first | (exact absurd h1 (by decide)) | (exact absurd h2 (by decide)) | exact ⟨by decide, by decide, rfl⟩
  exact call_plain (Sp := sp10) spNil_ok Try.func10 Try.ntmps10 (by kernel_rfl) h
theorem c10_16 : CallP Try.prog 10 [.int .i64 14] (.str (name9 14)) := by
  have h : wC Try.prog sp10 14 noHint (prsOf []) noLs 0 (bodyOf Try.f10) 1000 (initL [.int .i64 14] 0) [] (finK Try.prog none Try.f10.results.toList (.str (name9 14))) := by
    refine (n10_16 _).mpr ?_
    intro x h1; subst h1
    refine ⟨fun h1 => ?_, fun h1 x h2 => ?_⟩
    · first | rfl | (exact absurd h1 (by decide))
    · subst h2
      refine ⟨fun h2 => ?_, fun h2 => ?_⟩
      · first | rfl | (exact absurd h2 (by decide))
      · first | (exact absurd h1 (by decide)) | (exact absurd h2 (by decide)) | exact ⟨by decide, by decide, rfl⟩
  exact call_plain (Sp := sp10) spNil_ok Try.func10 Try.ntmps10 (by kernel_rfl) h
theorem c10_17 : CallP Try.prog 10 [.int .i64 15] (.str (name9 15)) := by
  have h : wC Try.prog sp10 14 noHint (prsOf []) noLs 0 (bodyOf Try.f10) 1000 (initL [.int .i64 15] 0) [] (finK Try.prog none Try.f10.results.toList (.str (name9 15))) := by
    refine (n10_17 _).mpr ?_
    intro x h1; subst h1
    refine ⟨fun h1 => ?_, fun h1 x h2 => ?_⟩
    · first | rfl | (exact absurd h1 (by decide))
    · subst h2
      refine ⟨fun h2 => ?_, fun h2 => ?_⟩
      · first | rfl | (exact absurd h2 (by decide))
      · first | (exact absurd h1 (by decide)) | (exact absurd h2 (by decide)) | exact ⟨by decide, by decide, rfl⟩
  exact call_plain (Sp := sp10) spNil_ok Try.func10 Try.ntmps10 (by kernel_rfl) h
theorem c10_18 : CallP Try.prog 10 [.int .i64 16] (.str (name9 16)) := by
  have h : wC Try.prog sp10 14 noHint (prsOf []) noLs 0 (bodyOf Try.f10) 1000 (initL [.int .i64 16] 0) [] (finK Try.prog none Try.f10.results.toList (.str (name9 16))) := by
    refine (n10_18 _).mpr ?_
    intro x h1; subst h1
    refine ⟨fun h1 => ?_, fun h1 x h2 => ?_⟩
    · first | rfl | (exact absurd h1 (by decide))
    · subst h2
      refine ⟨fun h2 => ?_, fun h2 => ?_⟩
      · first | rfl | (exact absurd h2 (by decide))
      · first | (exact absurd h1 (by decide)) | (exact absurd h2 (by decide)) | exact ⟨by decide, by decide, rfl⟩
  exact call_plain (Sp := sp10) spNil_ok Try.func10 Try.ntmps10 (by kernel_rfl) h
theorem c10_19 : CallP Try.prog 10 [.int .i64 17] (.str (name9 17)) := by
  have h : wC Try.prog sp10 14 noHint (prsOf []) noLs 0 (bodyOf Try.f10) 1000 (initL [.int .i64 17] 0) [] (finK Try.prog none Try.f10.results.toList (.str (name9 17))) := by
    refine (n10_19 _).mpr ?_
    intro x h1; subst h1
    refine ⟨fun h1 => ?_, fun h1 x h2 => ?_⟩
    · first | rfl | (exact absurd h1 (by decide))
    · subst h2
      refine ⟨fun h2 => ?_, fun h2 => ?_⟩
      · first | rfl | (exact absurd h2 (by decide))
      · first | (exact absurd h1 (by decide)) | (exact absurd h2 (by decide)) | exact ⟨by decide, by decide, rfl⟩
  exact call_plain (Sp := sp10) spNil_ok Try.func10 Try.ntmps10 (by kernel_rfl) h
theorem c10_20 : CallP Try.prog 10 [.int .i64 18] (.str (name9 18)) := by
  have h : wC Try.prog sp10 14 noHint (prsOf []) noLs 0 (bodyOf Try.f10) 1000 (initL [.int .i64 18] 0) [] (finK Try.prog none Try.f10.results.toList (.str (name9 18))) := by
    refine (n10_20 _).mpr ?_
    intro x h1; subst h1
    refine ⟨fun h1 => ?_, fun h1 x h2 => ?_⟩
    · first | rfl | (exact absurd h1 (by decide))
    · subst h2
      refine ⟨fun h2 => ?_, fun h2 => ?_⟩
      · first | rfl | (exact absurd h2 (by decide))
      · first | (exact absurd h1 (by decide)) | (exact absurd h2 (by decide)) | exact ⟨by decide, by decide, rfl⟩
  exact call_plain (Sp := sp10) spNil_ok Try.func10 Try.ntmps10 (by kernel_rfl) h
theorem c10_21 : CallP Try.prog 10 [.int .i64 19] (.str (name9 19)) := by
  have h : wC Try.prog sp10 14 noHint (prsOf []) noLs 0 (bodyOf Try.f10) 1000 (initL [.int .i64 19] 0) [] (finK Try.prog none Try.f10.results.toList (.str (name9 19))) := by
    refine (n10_21 _).mpr ?_
    intro x h1; subst h1
    refine ⟨fun h1 => ?_, fun h1 x h2 => ?_⟩
    · first | rfl | (exact absurd h1 (by decide))
    · subst h2
      refine ⟨fun h2 => ?_, fun h2 => ?_⟩
      · first | rfl | (exact absurd h2 (by decide))
      · first | (exact absurd h1 (by decide)) | (exact absurd h2 (by decide)) | exact ⟨by decide, by decide, rfl⟩
  exact call_plain (Sp := sp10) spNil_ok Try.func10 Try.ntmps10 (by kernel_rfl) h
theorem c10_22 : CallP Try.prog 10 [.int .i64 20] (.str (name9 20)) := by
  have h : wC Try.prog sp10 14 noHint (prsOf []) noLs 0 (bodyOf Try.f10) 1000 (initL [.int .i64 20] 0) [] (finK Try.prog none Try.f10.results.toList (.str (name9 20))) := by
    refine (n10_22 _).mpr ?_
    intro x h1; subst h1
    refine ⟨fun h1 => ?_, fun h1 x h2 => ?_⟩
    · first | rfl | (exact absurd h1 (by decide))
    · subst h2
      refine ⟨fun h2 => ?_, fun h2 => ?_⟩
      · first | rfl | (exact absurd h2 (by decide))
      · first | (exact absurd h1 (by decide)) | (exact absurd h2 (by decide)) | exact ⟨by decide, by decide, rfl⟩
  exact call_plain (Sp := sp10) spNil_ok Try.func10 Try.ntmps10 (by kernel_rfl) h
theorem c10_23 : CallP Try.prog 10 [.int .i64 21] (.str (name9 21)) := by
  have h : wC Try.prog sp10 14 noHint (prsOf []) noLs 0 (bodyOf Try.f10) 1000 (initL [.int .i64 21] 0) [] (finK Try.prog none Try.f10.results.toList (.str (name9 21))) := by
    refine (n10_23 _).mpr ?_
    intro x h1; subst h1
    refine ⟨fun h1 => ?_, fun h1 x h2 => ?_⟩
    · first | rfl | (exact absurd h1 (by decide))
    · subst h2
      refine ⟨fun h2 => ?_, fun h2 => ?_⟩
      · first | rfl | (exact absurd h2 (by decide))
      · first | (exact absurd h1 (by decide)) | (exact absurd h2 (by decide)) | exact ⟨by decide, by decide, rfl⟩
  exact call_plain (Sp := sp10) spNil_ok Try.func10 Try.ntmps10 (by kernel_rfl) h
theorem c10_24 : CallP Try.prog 10 [.int .i64 22] (.str (name9 22)) := by
  have h : wC Try.prog sp10 14 noHint (prsOf []) noLs 0 (bodyOf Try.f10) 1000 (initL [.int .i64 22] 0) [] (finK Try.prog none Try.f10.results.toList (.str (name9 22))) := by
    refine (n10_24 _).mpr ?_
    intro x h1; subst h1
    refine ⟨fun h1 => ?_, fun h1 x h2 => ?_⟩
    · first | rfl | (exact absurd h1 (by decide))
    · subst h2
      refine ⟨fun h2 => ?_, fun h2 => ?_⟩
      · first | rfl | (exact absurd h2 (by decide))
      · first | (exact absurd h1 (by decide)) | (exact absurd h2 (by decide)) | exact ⟨by decide, by decide, rfl⟩
  exact call_plain (Sp := sp10) spNil_ok Try.func10 Try.ntmps10 (by kernel_rfl) h
theorem c10_25 : CallP Try.prog 10 [.int .i64 23] (.str (name9 23)) := by
  have h : wC Try.prog sp10 14 noHint (prsOf []) noLs 0 (bodyOf Try.f10) 1000 (initL [.int .i64 23] 0) [] (finK Try.prog none Try.f10.results.toList (.str (name9 23))) := by
    refine (n10_25 _).mpr ?_
    intro x h1; subst h1
    refine ⟨fun h1 => ?_, fun h1 x h2 => ?_⟩
    · first | rfl | (exact absurd h1 (by decide))
    · subst h2
      refine ⟨fun h2 => ?_, fun h2 => ?_⟩
      · first | rfl | (exact absurd h2 (by decide))
      · first | (exact absurd h1 (by decide)) | (exact absurd h2 (by decide)) | exact ⟨by decide, by decide, rfl⟩
  exact call_plain (Sp := sp10) spNil_ok Try.func10 Try.ntmps10 (by kernel_rfl) h
theorem c10_26 : CallP Try.prog 10 [.int .i64 24] (.str (name9 24)) := by
  have h : wC Try.prog sp10 14 noHint (prsOf []) noLs 0 (bodyOf Try.f10) 1000 (initL [.int .i64 24] 0) [] (finK Try.prog none Try.f10.results.toList (.str (name9 24))) := by
    refine (n10_26 _).mpr ?_
    intro x h1; subst h1
    refine ⟨fun h1 => ?_, fun h1 x h2 => ?_⟩
    · first | rfl | (exact absurd h1 (by decide))
    · subst h2
      refine ⟨fun h2 => ?_, fun h2 => ?_⟩
      · first | rfl | (exact absurd h2 (by decide))
      · first | (exact absurd h1 (by decide)) | (exact absurd h2 (by decide)) | exact ⟨by decide, by decide, rfl⟩
  exact call_plain (Sp := sp10) spNil_ok Try.func10 Try.ntmps10 (by kernel_rfl) h
theorem c10_27 : CallP Try.prog 10 [.int .i64 25] (.str (name9 25)) := by
  have h : wC Try.prog sp10 14 noHint (prsOf []) noLs 0 (bodyOf Try.f10) 1000 (initL [.int .i64 25] 0) [] (finK Try.prog none Try.f10.results.toList (.str (name9 25))) := by
    refine (n10_27 _).mpr ?_
    intro x h1; subst h1
    refine ⟨fun h1 => ?_, fun h1 x h2 => ?_⟩
    · first | rfl | (exact absurd h1 (by decide))
    · subst h2
      refine ⟨fun h2 => ?_, fun h2 => ?_⟩
      · first | rfl | (exact absurd h2 (by decide))
      · first | (exact absurd h1 (by decide)) | (exact absurd h2 (by decide)) | exact ⟨by decide, by decide, rfl⟩
  exact call_plain (Sp := sp10) spNil_ok Try.func10 Try.ntmps10 (by kernel_rfl) h
theorem c10_28 : CallP Try.prog 10 [.int .i64 26] (.str (name9 26)) := by
  have h : wC Try.prog sp10 14 noHint (prsOf []) noLs 0 (bodyOf Try.f10) 1000 (initL [.int .i64 26] 0) [] (finK Try.prog none Try.f10.results.toList (.str (name9 26))) := by
    refine (n10_28 _).mpr ?_
    intro x h1; subst h1
    refine ⟨fun h1 => ?_, fun h1 x h2 => ?_⟩
    · first | rfl | (exact absurd h1 (by decide))
    · subst h2
      refine ⟨fun h2 => ?_, fun h2 => ?_⟩
      · first | rfl | (exact absurd h2 (by decide))
      · first | (exact absurd h1 (by decide)) | (exact absurd h2 (by decide)) | exact ⟨by decide, by decide, rfl⟩
  exact call_plain (Sp := sp10) spNil_ok Try.func10 Try.ntmps10 (by kernel_rfl) h
theorem c10_29 : CallP Try.prog 10 [.int .i64 27] (.str (name9 27)) := by
  have h : wC Try.prog sp10 14 noHint (prsOf []) noLs 0 (bodyOf Try.f10) 1000 (initL [.int .i64 27] 0) [] (finK Try.prog none Try.f10.results.toList (.str (name9 27))) := by
    refine (n10_29 _).mpr ?_
    intro x h1; subst h1
    refine ⟨fun h1 => ?_, fun h1 x h2 => ?_⟩
    · first | rfl | (exact absurd h1 (by decide))
    · subst h2
      refine ⟨fun h2 => ?_, fun h2 => ?_⟩
      · first | rfl | (exact absurd h2 (by decide))
      · first | (exact absurd h1 (by decide)) | (exact absurd h2 (by decide)) | exact ⟨by decide, by decide, rfl⟩
  exact call_plain (Sp := sp10) spNil_ok Try.func10 Try.ntmps10 (by kernel_rfl) h
theorem c10_30 : CallP Try.prog 10 [.int .i64 28] (.str (name9 28)) := by
  have h : wC Try.prog sp10 14 noHint (prsOf []) noLs 0 (bodyOf Try.f10) 1000 (initL [.int .i64 28] 0) [] (finK Try.prog none Try.f10.results.toList (.str (name9 28))) := by
    refine (n10_30 _).mpr ?_
    intro x h1; subst h1
    refine ⟨fun h1 => ?_, fun h1 x h2 => ?_⟩
    · first | rfl | (exact absurd h1 (by decide))
    · subst h2
      refine ⟨fun h2 => ?_, fun h2 => ?_⟩
      · first | rfl | (exact absurd h2 (by decide))
      · first | (exact absurd h1 (by decide)) | (exact absurd h2 (by decide)) | exact ⟨by decide, by decide, rfl⟩
  exact call_plain (Sp := sp10) spNil_ok Try.func10 Try.ntmps10 (by kernel_rfl) h
theorem c10_31 : CallP Try.prog 10 [.int .i64 29] (.str (name9 29)) := by
  have h : wC Try.prog sp10 14 noHint (prsOf []) noLs 0 (bodyOf Try.f10) 1000 (initL [.int .i64 29] 0) [] (finK Try.prog none Try.f10.results.toList (.str (name9 29))) := by
    refine (n10_31 _).mpr ?_
    intro x h1; subst h1
    refine ⟨fun h1 => ?_, fun h1 x h2 => ?_⟩
    · first | rfl | (exact absurd h1 (by decide))
    · subst h2
      refine ⟨fun h2 => ?_, fun h2 => ?_⟩
      · first | rfl | (exact absurd h2 (by decide))
      · first | (exact absurd h1 (by decide)) | (exact absurd h2 (by decide)) | exact ⟨by decide, by decide, rfl⟩
  exact call_plain (Sp := sp10) spNil_ok Try.func10 Try.ntmps10 (by kernel_rfl) h
theorem c10_32 : CallP Try.prog 10 [.int .i64 30] (.str (name9 30)) := by
  have h : wC Try.prog sp10 14 noHint (prsOf []) noLs 0 (bodyOf Try.f10) 1000 (initL [.int .i64 30] 0) [] (finK Try.prog none Try.f10.results.toList (.str (name9 30))) := by
    refine (n10_32 _).mpr ?_
    intro x h1; subst h1
    refine ⟨fun h1 => ?_, fun h1 x h2 => ?_⟩
    · first | rfl | (exact absurd h1 (by decide))
    · subst h2
      refine ⟨fun h2 => ?_, fun h2 => ?_⟩
      · first | rfl | (exact absurd h2 (by decide))
      · first | (exact absurd h1 (by decide)) | (exact absurd h2 (by decide)) | exact ⟨by decide, by decide, rfl⟩
  exact call_plain (Sp := sp10) spNil_ok Try.func10 Try.ntmps10 (by kernel_rfl) h
theorem c10_33 : CallP Try.prog 10 [.int .i64 31] (.str (name9 31)) := by
  have h : wC Try.prog sp10 14 noHint (prsOf []) noLs 0 (bodyOf Try.f10) 1000 (initL [.int .i64 31] 0) [] (finK Try.prog none Try.f10.results.toList (.str (name9 31))) := by
    refine (n10_33 _).mpr ?_
    intro x h1; subst h1
    refine ⟨fun h1 => ?_, fun h1 x h2 => ?_⟩
    · first | rfl | (exact absurd h1 (by decide))
    · subst h2
      refine ⟨fun h2 => ?_, fun h2 => ?_⟩
      · first | rfl | (exact absurd h2 (by decide))
      · first | (exact absurd h1 (by decide)) | (exact absurd h2 (by decide)) | exact ⟨by decide, by decide, rfl⟩
  exact call_plain (Sp := sp10) spNil_ok Try.func10 Try.ntmps10 (by kernel_rfl) h
theorem c10_34 : CallP Try.prog 10 [.int .i64 32] (.str (name9 32)) := by
  have h : wC Try.prog sp10 14 noHint (prsOf []) noLs 0 (bodyOf Try.f10) 1000 (initL [.int .i64 32] 0) [] (finK Try.prog none Try.f10.results.toList (.str (name9 32))) := by
    refine (n10_34 _).mpr ?_
    intro x h1; subst h1
    refine ⟨fun h1 => ?_, fun h1 x h2 => ?_⟩
    · first | rfl | (exact absurd h1 (by decide))
    · subst h2
      refine ⟨fun h2 => ?_, fun h2 => ?_⟩
      · first | rfl | (exact absurd h2 (by decide))
      · first | (exact absurd h1 (by decide)) | (exact absurd h2 (by decide)) | exact ⟨by decide, by decide, rfl⟩
  exact call_plain (Sp := sp10) spNil_ok Try.func10 Try.ntmps10 (by kernel_rfl) h
theorem c10_35 : CallP Try.prog 10 [.int .i64 33] (.str (name9 33)) := by
  have h : wC Try.prog sp10 14 noHint (prsOf []) noLs 0 (bodyOf Try.f10) 1000 (initL [.int .i64 33] 0) [] (finK Try.prog none Try.f10.results.toList (.str (name9 33))) := by
    refine (n10_35 _).mpr ?_
    intro x h1; subst h1
    refine ⟨fun h1 => ?_, fun h1 x h2 => ?_⟩
    · first | rfl | (exact absurd h1 (by decide))
    · subst h2
      refine ⟨fun h2 => ?_, fun h2 => ?_⟩
      · first | rfl | (exact absurd h2 (by decide))
      · first | (exact absurd h1 (by decide)) | (exact absurd h2 (by decide)) | exact ⟨by decide, by decide, rfl⟩
  exact call_plain (Sp := sp10) spNil_ok Try.func10 Try.ntmps10 (by kernel_rfl) h
theorem c10_36 : CallP Try.prog 10 [.int .i64 34] (.str (name9 34)) := by
  have h : wC Try.prog sp10 14 noHint (prsOf []) noLs 0 (bodyOf Try.f10) 1000 (initL [.int .i64 34] 0) [] (finK Try.prog none Try.f10.results.toList (.str (name9 34))) := by
    refine (n10_36 _).mpr ?_
    intro x h1; subst h1
    refine ⟨fun h1 => ?_, fun h1 x h2 => ?_⟩
    · first | rfl | (exact absurd h1 (by decide))
    · subst h2
      refine ⟨fun h2 => ?_, fun h2 => ?_⟩
      · first | rfl | (exact absurd h2 (by decide))
      · first | (exact absurd h1 (by decide)) | (exact absurd h2 (by decide)) | exact ⟨by decide, by decide, rfl⟩
  exact call_plain (Sp := sp10) spNil_ok Try.func10 Try.ntmps10 (by kernel_rfl) h
theorem c10_37 : CallP Try.prog 10 [.int .i64 35] (.str (name9 35)) := by
  have h : wC Try.prog sp10 14 noHint (prsOf []) noLs 0 (bodyOf Try.f10) 1000 (initL [.int .i64 35] 0) [] (finK Try.prog none Try.f10.results.toList (.str (name9 35))) := by
    refine (n10_37 _).mpr ?_
    intro x h1; subst h1
    refine ⟨fun h1 => ?_, fun h1 x h2 => ?_⟩
    · first | rfl | (exact absurd h1 (by decide))
    · subst h2
      refine ⟨fun h2 => ?_, fun h2 => ?_⟩
      · first | rfl | (exact absurd h2 (by decide))
      · first | (exact absurd h1 (by decide)) | (exact absurd h2 (by decide)) | exact ⟨by decide, by decide, rfl⟩
  exact call_plain (Sp := sp10) spNil_ok Try.func10 Try.ntmps10 (by kernel_rfl) h
theorem c10_38 : CallP Try.prog 10 [.int .i64 36] (.str (name9 36)) := by
  have h : wC Try.prog sp10 14 noHint (prsOf []) noLs 0 (bodyOf Try.f10) 1000 (initL [.int .i64 36] 0) [] (finK Try.prog none Try.f10.results.toList (.str (name9 36))) := by
    refine (n10_38 _).mpr ?_
    intro x h1; subst h1
    refine ⟨fun h1 => ?_, fun h1 x h2 => ?_⟩
    · first | rfl | (exact absurd h1 (by decide))
    · subst h2
      refine ⟨fun h2 => ?_, fun h2 => ?_⟩
      · first | rfl | (exact absurd h2 (by decide))
      · first | (exact absurd h1 (by decide)) | (exact absurd h2 (by decide)) | exact ⟨by decide, by decide, rfl⟩
  exact call_plain (Sp := sp10) spNil_ok Try.func10 Try.ntmps10 (by kernel_rfl) h
theorem c10_39 : CallP Try.prog 10 [.int .i64 37] (.str (name9 37)) := by
  have h : wC Try.prog sp10 14 noHint (prsOf []) noLs 0 (bodyOf Try.f10) 1000 (initL [.int .i64 37] 0) [] (finK Try.prog none Try.f10.results.toList (.str (name9 37))) := by
    refine (n10_39 _).mpr ?_
    intro x h1; subst h1
    refine ⟨fun h1 => ?_, fun h1 x h2 => ?_⟩
    · first | rfl | (exact absurd h1 (by decide))
    · subst h2
      refine ⟨fun h2 => ?_, fun h2 => ?_⟩
      · first | rfl | (exact absurd h2 (by decide))
      · first | (exact absurd h1 (by decide)) | (exact absurd h2 (by decide)) | exact ⟨by decide, by decide, rfl⟩
  exact call_plain (Sp := sp10) spNil_ok Try.func10 Try.ntmps10 (by kernel_rfl) h
theorem c10_40 : CallP Try.prog 10 [.int .i64 38] (.str (name9 38)) := by
  have h : wC Try.prog sp10 14 noHint (prsOf []) noLs 0 (bodyOf Try.f10) 1000 (initL [.int .i64 38] 0) [] (finK Try.prog none Try.f10.results.toList (.str (name9 38))) := by
    refine (n10_40 _).mpr ?_
    intro x h1; subst h1
    refine ⟨fun h1 => ?_, fun h1 x h2 => ?_⟩
    · first | rfl | (exact absurd h1 (by decide))
    · subst h2
      refine ⟨fun h2 => ?_, fun h2 => ?_⟩
      · first | rfl | (exact absurd h2 (by decide))
      · first | (exact absurd h1 (by decide)) | (exact absurd h2 (by decide)) | exact ⟨by decide, by decide, rfl⟩
  exact call_plain (Sp := sp10) spNil_ok Try.func10 Try.ntmps10 (by kernel_rfl) h
theorem c10_41 : CallP Try.prog 10 [.int .i64 39] (.str (name9 39)) := by
  have h : wC Try.prog sp10 14 noHint (prsOf []) noLs 0 (bodyOf Try.f10) 1000 (initL [.int .i64 39] 0) [] (finK Try.prog none Try.f10.results.toList (.str (name9 39))) := by
    refine (n10_41 _).mpr ?_
    intro x h1; subst h1
    refine ⟨fun h1 => ?_, fun h1 x h2 => ?_⟩
    · first | rfl | (exact absurd h1 (by decide))
    · subst h2
      refine ⟨fun h2 => ?_, fun h2 => ?_⟩
      · first | rfl | (exact absurd h2 (by decide))
      · first | (exact absurd h1 (by decide)) | (exact absurd h2 (by decide)) | exact ⟨by decide, by decide, rfl⟩
  exact call_plain (Sp := sp10) spNil_ok Try.func10 Try.ntmps10 (by kernel_rfl) h
theorem c10_42 : CallP Try.prog 10 [.int .i64 40] (.str (name9 40)) := by
  have h : wC Try.prog sp10 14 noHint (prsOf []) noLs 0 (bodyOf Try.f10) 1000 (initL [.int .i64 40] 0) [] (finK Try.prog none Try.f10.results.toList (.str (name9 40))) := by
    refine (n10_42 _).mpr ?_
    intro x h1; subst h1
    refine ⟨fun h1 => ?_, fun h1 x h2 => ?_⟩
    · first | rfl | (exact absurd h1 (by decide))
    · subst h2
      refine ⟨fun h2 => ?_, fun h2 => ?_⟩
      · first | rfl | (exact absurd h2 (by decide))
      · first | (exact absurd h1 (by decide)) | (exact absurd h2 (by decide)) | exact ⟨by decide, by decide, rfl⟩
  exact call_plain (Sp := sp10) spNil_ok Try.func10 Try.ntmps10 (by kernel_rfl) h
theorem c10_43 : CallP Try.prog 10 [.int .i64 41] (.str (name9 41)) := by
  have h : wC Try.prog sp10 14 noHint (prsOf []) noLs 0 (bodyOf Try.f10) 1000 (initL [.int .i64 41] 0) [] (finK Try.prog none Try.f10.results.toList (.str (name9 41))) := by
    refine (n10_43 _).mpr ?_
    intro x h1; subst h1
    refine ⟨fun h1 => ?_, fun h1 x h2 => ?_⟩
    · first | rfl | (exact absurd h1 (by decide))
    · subst h2
      refine ⟨fun h2 => ?_, fun h2 => ?_⟩
      · first | rfl | (exact absurd h2 (by decide))
      · first | (exact absurd h1 (by decide)) | (exact absurd h2 (by decide)) | exact ⟨by decide, by decide, rfl⟩
  exact call_plain (Sp := sp10) spNil_ok Try.func10 Try.ntmps10 (by kernel_rfl) h
theorem c10_44 : CallP Try.prog 10 [.int .i64 42] (.str (name9 42)) := by
  have h : wC Try.prog sp10 14 noHint (prsOf []) noLs 0 (bodyOf Try.f10) 1000 (initL [.int .i64 42] 0) [] (finK Try.prog none Try.f10.results.toList (.str (name9 42))) := by
    refine (n10_44 _).mpr ?_
    intro x h1; subst h1
    refine ⟨fun h1 => ?_, fun h1 x h2 => ?_⟩
    · first | rfl | (exact absurd h1 (by decide))
    · subst h2
      refine ⟨fun h2 => ?_, fun h2 => ?_⟩
      · first | rfl | (exact absurd h2 (by decide))
      · first | (exact absurd h1 (by decide)) | (exact absurd h2 (by decide)) | exact ⟨by decide, by decide, rfl⟩
  exact call_plain (Sp := sp10) spNil_ok Try.func10 Try.ntmps10 (by kernel_rfl) h
theorem c10_45 : CallP Try.prog 10 [.int .i64 43] (.str (name9 43)) := by
  have h : wC Try.prog sp10 14 noHint (prsOf []) noLs 0 (bodyOf Try.f10) 1000 (initL [.int .i64 43] 0) [] (finK Try.prog none Try.f10.results.toList (.str (name9 43))) := by
    refine (n10_45 _).mpr ?_
    intro x h1; subst h1
    refine ⟨fun h1 => ?_, fun h1 x h2 => ?_⟩
    · first | rfl | (exact absurd h1 (by decide))
    · subst h2
      refine ⟨fun h2 => ?_, fun h2 => ?_⟩
      · first | rfl | (exact absurd h2 (by decide))
      · first | (exact absurd h1 (by decide)) | (exact absurd h2 (by decide)) | exact ⟨by decide, by decide, rfl⟩
  exact call_plain (Sp := sp10) spNil_ok Try.func10 Try.ntmps10 (by kernel_rfl) h
theorem c10_46 : CallP Try.prog 10 [.int .i64 44] (.str (name9 44)) := by
  have h : wC Try.prog sp10 14 noHint (prsOf []) noLs 0 (bodyOf Try.f10) 1000 (initL [.int .i64 44] 0) [] (finK Try.prog none Try.f10.results.toList (.str (name9 44))) := by
    refine (n10_46 _).mpr ?_
    intro x h1; subst h1
    refine ⟨fun h1 => ?_, fun h1 x h2 => ?_⟩
    · first | rfl | (exact absurd h1 (by decide))
    · subst h2
      refine ⟨fun h2 => ?_, fun h2 => ?_⟩
      · first | rfl | (exact absurd h2 (by decide))
      · first | (exact absurd h1 (by decide)) | (exact absurd h2 (by decide)) | exact ⟨by decide, by decide, rfl⟩
  exact call_plain (Sp := sp10) spNil_ok Try.func10 Try.ntmps10 (by kernel_rfl) h
theorem c10_47 : CallP Try.prog 10 [.int .i64 45] (.str (name9 45)) := by
  have h : wC Try.prog sp10 14 noHint (prsOf []) noLs 0 (bodyOf Try.f10) 1000 (initL [.int .i64 45] 0) [] (finK Try.prog none Try.f10.results.toList (.str (name9 45))) := by
    refine (n10_47 _).mpr ?_
    intro x h1; subst h1
    refine ⟨fun h1 => ?_, fun h1 x h2 => ?_⟩
    · first | rfl | (exact absurd h1 (by decide))
    · subst h2
      refine ⟨fun h2 => ?_, fun h2 => ?_⟩
      · first | rfl | (exact absurd h2 (by decide))
      · first | (exact absurd h1 (by decide)) | (exact absurd h2 (by decide)) | exact ⟨by decide, by decide, rfl⟩
  exact call_plain (Sp := sp10) spNil_ok Try.func10 Try.ntmps10 (by kernel_rfl) h
theorem c10_48 : CallP Try.prog 10 [.int .i64 46] (.str (name9 46)) := by
  have h : wC Try.prog sp10 14 noHint (prsOf []) noLs 0 (bodyOf Try.f10) 1000 (initL [.int .i64 46] 0) [] (finK Try.prog none Try.f10.results.toList (.str (name9 46))) := by
    refine (n10_48 _).mpr ?_
    intro x h1; subst h1
    refine ⟨fun h1 => ?_, fun h1 x h2 => ?_⟩
    · first | rfl | (exact absurd h1 (by decide))
    · subst h2
      refine ⟨fun h2 => ?_, fun h2 => ?_⟩
      · first | rfl | (exact absurd h2 (by decide))
      · first | (exact absurd h1 (by decide)) | (exact absurd h2 (by decide)) | exact ⟨by decide, by decide, rfl⟩
  exact call_plain (Sp := sp10) spNil_ok Try.func10 Try.ntmps10 (by kernel_rfl) h
theorem c10_49 : CallP Try.prog 10 [.int .i64 47] (.str (name9 47)) := by
  have h : wC Try.prog sp10 14 noHint (prsOf []) noLs 0 (bodyOf Try.f10) 1000 (initL [.int .i64 47] 0) [] (finK Try.prog none Try.f10.results.toList (.str (name9 47))) := by
    refine (n10_49 _).mpr ?_
    intro x h1; subst h1
    refine ⟨fun h1 => ?_, fun h1 x h2 => ?_⟩
    · first | rfl | (exact absurd h1 (by decide))
    · subst h2
      refine ⟨fun h2 => ?_, fun h2 => ?_⟩
      · first | rfl | (exact absurd h2 (by decide))
      · first | (exact absurd h1 (by decide)) | (exact absurd h2 (by decide)) | exact ⟨by decide, by decide, rfl⟩
  exact call_plain (Sp := sp10) spNil_ok Try.func10 Try.ntmps10 (by kernel_rfl) h
theorem c10_50 : CallP Try.prog 10 [.int .i64 48] (.str (name9 48)) := by
  have h : wC Try.prog sp10 14 noHint (prsOf []) noLs 0 (bodyOf Try.f10) 1000 (initL [.int .i64 48] 0) [] (finK Try.prog none Try.f10.results.toList (.str (name9 48))) := by
    refine (n10_50 _).mpr ?_
    intro x h1; subst h1
    refine ⟨fun h1 => ?_, fun h1 x h2 => ?_⟩
    · first | rfl | (exact absurd h1 (by decide))
    · subst h2
      refine ⟨fun h2 => ?_, fun h2 => ?_⟩
      · first | rfl | (exact absurd h2 (by decide))
      · first | (exact absurd h1 (by decide)) | (exact absurd h2 (by decide)) | exact ⟨by decide, by decide, rfl⟩
  exact call_plain (Sp := sp10) spNil_ok Try.func10 Try.ntmps10 (by kernel_rfl) h
theorem c10_51 : CallP Try.prog 10 [.int .i64 49] (.str (name9 49)) := by
  have h : wC Try.prog sp10 14 noHint (prsOf []) noLs 0 (bodyOf Try.f10) 1000 (initL [.int .i64 49] 0) [] (finK Try.prog none Try.f10.results.toList (.str (name9 49))) := by
    refine (n10_51 _).mpr ?_
    intro x h1; subst h1
    refine ⟨fun h1 => ?_, fun h1 x h2 => ?_⟩
    · first | rfl | (exact absurd h1 (by decide))
    · subst h2
      refine ⟨fun h2 => ?_, fun h2 => ?_⟩
      · first | rfl | (exact absurd h2 (by decide))
      · first | (exact absurd h1 (by decide)) | (exact absurd h2 (by decide)) | exact ⟨by decide, by decide, rfl⟩
  exact call_plain (Sp := sp10) spNil_ok Try.func10 Try.ntmps10 (by kernel_rfl) h
theorem c10_52 : CallP Try.prog 10 [.int .i64 50] (.str (name9 50)) := by
  have h : wC Try.prog sp10 14 noHint (prsOf []) noLs 0 (bodyOf Try.f10) 1000 (initL [.int .i64 50] 0) [] (finK Try.prog none Try.f10.results.toList (.str (name9 50))) := by
    refine (n10_52 _).mpr ?_
    intro x h1; subst h1
    refine ⟨fun h1 => ?_, fun h1 x h2 => ?_⟩
    · first | rfl | (exact absurd h1 (by decide))
    · subst h2
      refine ⟨fun h2 => ?_, fun h2 => ?_⟩
      · first | rfl | (exact absurd h2 (by decide))
      · first | (exact absurd h1 (by decide)) | (exact absurd h2 (by decide)) | exact ⟨by decide, by decide, rfl⟩
  exact call_plain (Sp := sp10) spNil_ok Try.func10 Try.ntmps10 (by kernel_rfl) h
theorem c10_53 : CallP Try.prog 10 [.int .i64 51] (.str (name9 51)) := by
  have h : wC Try.prog sp10 14 noHint (prsOf []) noLs 0 (bodyOf Try.f10) 1000 (initL [.int .i64 51] 0) [] (finK Try.prog none Try.f10.results.toList (.str (name9 51))) := by
    refine (n10_53 _).mpr ?_
    intro x h1; subst h1
    refine ⟨fun h1 => ?_, fun h1 x h2 => ?_⟩
    · first | rfl | (exact absurd h1 (by decide))
    · subst h2
      refine ⟨fun h2 => ?_, fun h2 => ?_⟩
      · first | rfl | (exact absurd h2 (by decide))
      · first | (exact absurd h1 (by decide)) | (exact absurd h2 (by decide)) | exact ⟨by decide, by decide, rfl⟩
  exact call_plain (Sp := sp10) spNil_ok Try.func10 Try.ntmps10 (by kernel_rfl) h
theorem c10_54 : CallP Try.prog 10 [.int .i64 52] (.str (name9 52)) := by
  have h : wC Try.prog sp10 14 noHint (prsOf []) noLs 0 (bodyOf Try.f10) 1000 (initL [.int .i64 52] 0) [] (finK Try.prog none Try.f10.results.toList (.str (name9 52))) := by
    refine (n10_54 _).mpr ?_
    intro x h1; subst h1
    refine ⟨fun h1 => ?_, fun h1 x h2 => ?_⟩
    · first | rfl | (exact absurd h1 (by decide))
    · subst h2
      refine ⟨fun h2 => ?_, fun h2 => ?_⟩
      · first | rfl | (exact absurd h2 (by decide))
      · first | (exact absurd h1 (by decide)) | (exact absurd h2 (by decide)) | exact ⟨by decide, by decide, rfl⟩
  exact call_plain (Sp := sp10) spNil_ok Try.func10 Try.ntmps10 (by kernel_rfl) h
theorem c10_55 : CallP Try.prog 10 [.int .i64 53] (.str (name9 53)) := by
  have h : wC Try.prog sp10 14 noHint (prsOf []) noLs 0 (bodyOf Try.f10) 1000 (initL [.int .i64 53] 0) [] (finK Try.prog none Try.f10.results.toList (.str (name9 53))) := by
    refine (n10_55 _).mpr ?_
    intro x h1; subst h1
    refine ⟨fun h1 => ?_, fun h1 x h2 => ?_⟩
    · first | rfl | (exact absurd h1 (by decide))
    · subst h2
      refine ⟨fun h2 => ?_, fun h2 => ?_⟩
      · first | rfl | (exact absurd h2 (by decide))
      · first | (exact absurd h1 (by decide)) | (exact absurd h2 (by decide)) | exact ⟨by decide, by decide, rfl⟩
  exact call_plain (Sp := sp10) spNil_ok Try.func10 Try.ntmps10 (by kernel_rfl) h
theorem c10_56 : CallP Try.prog 10 [.int .i64 54] (.str (name9 54)) := by
  have h : wC Try.prog sp10 14 noHint (prsOf []) noLs 0 (bodyOf Try.f10) 1000 (initL [.int .i64 54] 0) [] (finK Try.prog none Try.f10.results.toList (.str (name9 54))) := by
    refine (n10_56 _).mpr ?_
    intro x h1; subst h1
    refine ⟨fun h1 => ?_, fun h1 x h2 => ?_⟩
    · first | rfl | (exact absurd h1 (by decide))
    · subst h2
      refine ⟨fun h2 => ?_, fun h2 => ?_⟩
      · first | rfl | (exact absurd h2 (by decide))
      · first | (exact absurd h1 (by decide)) | (exact absurd h2 (by decide)) | exact ⟨by decide, by decide, rfl⟩
  exact call_plain (Sp := sp10) spNil_ok Try.func10 Try.ntmps10 (by kernel_rfl) h
theorem c10 (op : Int) (h1 : -2 ≤ op) (h2 : op ≤ 54) : CallP Try.prog 10 [.int .i64 op] (.str (name9 op)) := by
  obtain ⟨n, hn, hlt⟩ : ∃ n : Nat, op = (n : Int) - 2 ∧ n < 57 := ⟨(op + 2).toNat, by omega, by omega⟩
  subst hn
  match n, hlt with
  | 0, _ => exact c10_0
  | 1, _ => exact c10_1
  | 2, _ => exact c10_2
  | 3, _ => exact c10_3
  | 4, _ => exact c10_4
  | 5, _ => exact c10_5
  | 6, _ => exact c10_6
  | 7, _ => exact c10_7
  | 8, _ => exact c10_8
  | 9, _ => exact c10_9
  | 10, _ => exact c10_10
  | 11, _ => exact c10_11
  | 12, _ => exact c10_12
  | 13, _ => exact c10_13
  | 14, _ => exact c10_14
  | 15, _ => exact c10_15
  | 16, _ => exact c10_16
  | 17, _ => exact c10_17
  | 18, _ => exact c10_18
  | 19, _ => exact c10_19
  | 20, _ => exact c10_20
  | 21, _ => exact c10_21
  | 22, _ => exact c10_22
  | 23, _ => exact c10_23
  | 24, _ => exact c10_24
  | 25, _ => exact c10_25
  | 26, _ => exact c10_26
  | 27, _ => exact c10_27
  | 28, _ => exact c10_28
  | 29, _ => exact c10_29
  | 30, _ => exact c10_30
  | 31, _ => exact c10_31
  | 32, _ => exact c10_32
  | 33, _ => exact c10_33
  | 34, _ => exact c10_34
  | 35, _ => exact c10_35
  | 36, _ => exact c10_36
  | 37, _ => exact c10_37
  | 38, _ => exact c10_38
  | 39, _ => exact c10_39
  | 40, _ => exact c10_40
  | 41, _ => exact c10_41
  | 42, _ => exact c10_42
  | 43, _ => exact c10_43
  | 44, _ => exact c10_44
  | 45, _ => exact c10_45
  | 46, _ => exact c10_46
  | 47, _ => exact c10_47
  | 48, _ => exact c10_48
  | 49, _ => exact c10_49
  | 50, _ => exact c10_50
  | 51, _ => exact c10_51
  | 52, _ => exact c10_52
  | 53, _ => exact c10_53
  | 54, _ => exact c10_54
  | 55, _ => exact c10_55
  | 56, _ => exact c10_56
  | n + 57, h => exact absurd h (by omega)
theorem b10_ok (args : List V) (k : V → Prop) (h : b10 args k) : ∃ r, CallP Try.prog 10 args r ∧ k r := by
  unfold b10 at h
  split at h
  · exact ⟨_, c10 _ h.1.1 h.1.2, h.2⟩
  · exact h.elim
theorem sp19_ok : SpOk Try.prog sp19 := spAdd_ok b8_ok (spAdd_ok b30_ok (spNil_ok))
theorem drop_dec {xs : List V} {i : Int} (h0 : 0 ≤ i) (h : i < xs.length) : xs.drop i.toNat = getV xs i :: xs.drop (i + 1).toNat := by
  have hb : i.toNat < xs.length := by omega
  have e : (i + 1).toNat = i.toNat + 1 := by omega
  rw [e, List.drop_eq_getElem_cons hb]
  unfold getV
  rw [List.getD_eq_getElem?_getD, List.getElem?_eq_getElem hb]
  rfl
theorem drop_decS {xs : List UInt8} {i : Int} (h0 : 0 ≤ i) (h : i < xs.length) : xs.drop i.toNat = xs.getD i.toNat 0 :: xs.drop (i + 1).toNat := by
  have hb : i.toNat < xs.length := by omega
  have e : (i + 1).toNat = i.toNat + 1 := by omega
  rw [e, List.drop_eq_getElem_cons hb]
  rw [List.getD_eq_getElem?_getD, List.getElem?_eq_getElem hb]
  rfl
theorem lp19 : LsOk Try.prog 40 1000 [3, 26, 27, 28] [] ent19 (lcode Try.f19 0).2 := by
  intro vs ks K h
  unfold ent19 at h
  split at h
  · rename_i sg xs n i
    obtain ⟨rfl, hb, hl, hf, rfl, hK1, hK2⟩ := h
    refine loop_rule (hints := noHint) (prs := prsOf [(7, [[], [], [0, 1], [], [2, 0, 1, 3], [4, 2, 0, 1, 3]])]) (Ls := noLs) sp19_ok ends19_0 (γ := Int) (fun i => [.str sg, .list false xs, .int .i64 xs.length, .int .i64 i]) (fun _ => []) (fun i => xs.length - i.toNat)
      (fun i => 0 ≤ i ∧ i ≤ xs.length ∧ fitOk (sg.drop i.toNat) (xs.drop i.toNat) ∧ (fitF (sg.drop i.toNat) (xs.drop i.toNat) = true → K (.exit 0) 1000 [] []) ∧ (fitF (sg.drop i.toNat) (xs.drop i.toNat) = false → K .ret 1000 [(2, .gd true (.bool false))] []))
      K (noLoop_ok (by kernel_rfl)) ?_ 0 ⟨by omega, by omega, hf, hK1, hK2⟩
    rintro i ⟨h0, h1, h2, h3, h4⟩
    refine (nl19_0 sg xs _ i _ _ _).mpr ?_
    intro x hx; subst hx
    refine ⟨fun h5 => ?_, fun h5 => ?_⟩
    · simp only [decide_eq_true_eq] at h5
      rw [drop_dec h0 h5, drop_decS h0 (by omega)] at h2 h3 h4
      obtain ⟨⟨c1, c2, t, n, ls, e⟩, h2⟩ := h2
      refine ⟨h0, h5, t, n, ls, e, h0, by omega, fun x hx => ?_⟩
      subst hx
      refine ⟨⟨c1, c2⟩, fun y hy => ?_⟩
      have hfe : fitF (sg.getD i.toNat 0 :: sg.drop (i + 1).toNat) (getV xs i :: xs.drop (i + 1).toNat) = if fit1 (sg.getD i.toNat 0).toNat t n ls then fitF (sg.drop (i + 1).toNat) (xs.drop (i + 1).toNat) else false := by
        simp only [fitF, e, fitV]
      refine ⟨fun hy2 => ?_, fun hy2 z hz => ?_⟩
      · rw [hy] at hy2
        simp only [Bool.not_eq_true'] at hy2
        exact h4 (by rw [hfe, hy2]; rfl)
      · rw [hy] at hy2
        simp only [Bool.not_eq_false'] at hy2
        rw [hfe, hy2, if_pos rfl] at h3 h4
        have hz' : z = i + 1 := by rw [hz, IntKind.wrap_i64]; omega
        subst hz'
        refine ⟨i + 1, rfl, rfl, ?_, ?_, ?_, h2, h3, h4⟩
        · show xs.length - (i + 1).toNat < xs.length - i.toNat
          omega
        · omega
        · omega
    · simp only [decide_eq_false_iff_not] at h5
      have hd : xs.drop i.toNat = [] := List.drop_eq_nil_of_le (by omega)
      have hd2 : sg.drop i.toNat = [] := List.drop_eq_nil_of_le (by omega)
      rw [hd, hd2] at h3
      exact h3 rfl
  · exact h.elim
theorem c19 (op : Int) (xs : List V) (hp : xs.length = (sigS op).length → fitOk (sigS op) xs) : CallP Try.prog 19 [.agg [.int .i64 op, .list false xs]] (.bool (fitsB op xs)) := by
  refine call_loops sp19_ok Try.func19 Try.ntmps19 (by kernel_rfl) (loopsOf_ok ?_) ((n19 op xs _).mpr ?_)
  · have e : loopsOf 0 (bodyOf Try.f19) = [lcode Try.f19 0] := by kernel_rfl
    rw [e]
    intro p hp
    simp only [List.mem_cons, List.not_mem_nil, or_false] at hp
    subst hp
    exact lsAdd_hit lp19
  · intro x h1; subst h1
    refine ⟨fun h1 => by simp only [fitsB, h1, if_true], fun h1 x h2 => ?_⟩
    subst h2
    refine ⟨fun h2 => by simp only [fitsB, h1, h2, if_true, if_false, Bool.false_eq_true], fun h2 hl x h3 hl2 y h4 z h5 => ?_⟩
    subst h3 h4 h5
    refine ⟨fun h3 => by simp only [fitsB, h1, h2, h3, if_true, if_false, Bool.false_eq_true], fun h3 hl x h4 => ?_⟩
    have h6 : xs.length = (sigS op).length := by
      have h7 : (xs.length : Int) = ((sigS op).length : Int) := by simpa using h3
      omega
    refine ⟨h4, hl, h6, hp h6, rfl, fun h => ?_, fun h => ?_⟩
    · simp only [fitsB, h1, h2, h3, h, if_true, if_false, Bool.false_eq_true]
    · simp only [fitsB, h1, h2, h3, h, if_true, if_false, Bool.false_eq_true]
theorem b19_ok (args : List V) (k : V → Prop) (h : b19 args k) : ∃ r, CallP Try.prog 19 args r ∧ k r := by
  unfold b19 at h
  split at h
  · exact ⟨_, c19 _ _ h.1, h.2⟩
  · exact h.elim
theorem sp14_ok : SpOk Try.prog sp14 := spAdd_ok b8_ok (spAdd_ok b10_ok (spAdd_ok b12_ok (spAdd_ok b16_ok (spAdd_ok b19_ok (spAdd_ok b20_ok (spAdd_ok b21_ok (spNil_ok)))))))
theorem mem2 {a b v : V} (h : List.Mem v [a, b]) : v = a ∨ v = b := by
  cases h with
  | head => exact .inl rfl
  | tail _ h => cases h with
    | head => exact .inr rfl
    | tail _ h => cases h
theorem c14 : CallP Try.prog 14 [] (.bool true) := by
  have h : wC Try.prog sp14 22 noHint (prsOf []) noLs 0 (bodyOf Try.f14) 1000 (initL [] 0) [] (finK Try.prog none Try.f14.results.toList (.bool true)) := by
    refine (n14 _).mpr ?_
    intro x h1
    have hx : x = true := by rw [h1]; rfl
    refine ⟨fun _ => ⟨⟨by decide, by decide⟩, fun y h2 => ?_⟩, fun h => absurd (hx.symm.trans h) (by decide)⟩
    have hy : y = true := by rw [h2]; rfl
    have hf : fitsB 4 [V.agg [V.int IntKind.i64 1, V.int IntKind.i64 1, V.list false []], V.agg [V.int IntKind.i64 3, V.int IntKind.i64 0, V.list false []]] = true := by kernel_rfl
    refine ⟨fun _ => ⟨⟨fun v hv => ?_, by decide⟩, fun _ => ⟨⟨by decide, by decide, 1, 1, [], rfl⟩, ⟨by decide, by decide, 3, 0, [], rfl⟩, trivial⟩, fun _ => ⟨⟨fun v hv => (by cases hv), by decide⟩, fun h => absurd h (by decide), fun z h3 => ?_⟩, fun h => absurd (hf.symm.trans h) (by decide)⟩, fun h => absurd (hy.symm.trans h) (by decide)⟩
    · rcases mem2 hv with rfl | rfl <;> rfl
    · have hz : z = true := by rw [h3]; kernel_rfl
      exact ⟨fun _ => (by kernel_rfl), fun h => absurd (hz.symm.trans h) (by decide)⟩
  exact call_plain sp14_ok Try.func14 Try.ntmps14 (by kernel_rfl) h
theorem b14_ok (args : List V) (k : V → Prop) (h : b14 args k) : ∃ r, CallP Try.prog 14 args r ∧ k r := by
  unfold b14 at h
  split at h
  · exact ⟨_, c14, h⟩
  · exact h.elim
theorem sigT_f : ∀ n : Fin 57, (sigS ((n.val : Int) - 2) != sig9 ((n.val : Int) - 2)) = false := by decide +kernel
theorem sigT {op : Int} (h : tabOk op) : (sigS op != sig9 op) = false := by
  have := sigT_f ⟨(op + 2).toNat, by unfold tabOk at h; omega⟩
  have e : (((op + 2).toNat : Nat) : Int) - 2 = op := by unfold tabOk at h; omega
  simp only [e] at this
  exact this
theorem nameT_f : ∀ n m : Fin 52, 1 ≤ m.val → m.val < n.val → (name9 (m.val : Int) == name9 (n.val : Int)) = false := by decide +kernel
theorem nameT_ne {op k : Int} (h1 : 1 ≤ k) (h2 : k < op) (h3 : op ≤ 51) : (name9 k == name9 op) = false := by
  have := nameT_f ⟨op.toNat, by omega⟩ ⟨k.toNat, by omega⟩ (by show 1 ≤ k.toNat; omega) (by show k.toNat < op.toNat; omega)
  have e1 : ((op.toNat : Nat) : Int) = op := by omega
  have e2 : ((k.toNat : Nat) : Int) = k := by omega
  simp only [e1, e2] at this
  exact this
theorem sp3_ok : SpOk Try.prog sp3 := spAdd_ok b8_ok (spAdd_ok b9_ok (spAdd_ok b10_ok (spAdd_ok b11_ok (spAdd_ok b12_ok (spAdd_ok b13_ok (spAdd_ok b14_ok (spNil_ok)))))))
theorem lp3i : LsOk Try.prog 43 1000 [1, 2] [] ent3i (lin (lcode Try.f3 0) 0).2 := by
  intro vs ks K h
  unfold ent3i at h
  split at h
  · rename_i op k
    obtain ⟨ho, hk, hK⟩ := h
    refine loop_rule (hints := noHint) (prs := prsOf []) (Ls := noLs) sp3_ok ends3_1 (γ := Int) (fun k => [.int .i64 op, .int .i64 k]) (fun _ => []) (fun k => (op - k).toNat)
      (fun k => 1 ≤ k) K (noLoop_ok (by kernel_rfl)) ?_ k hk
    intro k hk
    unfold tabOk at ho
    refine (nl3_1 op k _ _ _).mpr ?_
    intro x hx; subst hx
    refine ⟨fun h1 x hx => ?_, fun _ => hK⟩
    subst hx
    refine ⟨fun h2 => ?_, fun _ => hK⟩
    simp only [decide_eq_true_eq] at h1 h2
    refine ⟨⟨by omega, by omega⟩, ho, fun x hx => ?_⟩
    have hne := nameT_ne hk h1 h2
    refine ⟨fun h3 => ?_, fun _ z hz => ?_⟩
    · rw [hx, hne] at h3; cases h3
    · have hz' : z = k + 1 := by rw [hz, IntKind.wrap_i64]; omega
      subst hz'
      refine ⟨k + 1, rfl, rfl, ?_, ?_⟩
      · show (op - (k + 1)).toNat < (op - k).toNat
        omega
      · show 1 ≤ k + 1
        omega
  · exact h.elim
theorem lp3 : LsOk Try.prog 43 1000 [1] [] ent3 (lcode Try.f3 0).2 := by
  intro vs ks K h
  unfold ent3 at h
  split at h
  · rename_i op
    obtain ⟨rfl, hK⟩ := h
    refine loop_rule (hints := noHint) (prs := prsOf []) (Ls := ls3i) sp3_ok ends3_0 (γ := Int) (fun op => [.int .i64 op]) (fun _ => []) (fun op => (55 - op).toNat)
      (fun op => -2 ≤ op ∧ op ≤ 55) K (loopsOf_ok ?_) ?_ (-2) ⟨by omega, by omega⟩
    · have e : loopsOf 0 (lcode Try.f3 0).2 = [(2, (lin (lcode Try.f3 0) 0).2)] := by kernel_rfl
      show ∀ p ∈ loopsOf 0 (lcode Try.f3 0).2, _
      rw [e]
      intro p hp
      simp only [List.mem_cons, List.not_mem_nil, or_false] at hp
      subst hp
      exact lsAdd_hit lp3i
    rintro op ⟨h0, h1⟩
    refine (nl3_0 op _ _ _).mpr ?_
    intro x hx; subst hx
    refine ⟨fun h2 x hx => ?_, fun _ => hK⟩
    simp only [decide_eq_true_eq] at h2
    have ht : tabOk op := ⟨h0, h2⟩
    refine ⟨fun h3 => ?_, fun _ => ⟨ht, fun x hx => ⟨fun h3 => ?_, fun _ x hx => ⟨fun h3 => ?_, fun _ => ⟨ht, by decide, fun z hz => ?_⟩⟩⟩⟩⟩
    · rw [hx, sigT ht] at h3; cases h3
    · rw [hx] at h3; simp at h3
    · rw [hx] at h3; simp at h3
    · have hz' : z = op + 1 := by rw [hz, IntKind.wrap_i64]; omega
      subst hz'
      refine ⟨op + 1, rfl, rfl, ?_, ?_, ?_⟩
      · show (55 - (op + 1)).toNat < (55 - op).toNat
        omega
      · omega
      · omega
  · exact h.elim
theorem c3 : CallP Try.prog 3 [] (.bool true) := by
  have h : wC Try.prog sp3 43 noHint (prsOf []) ls3 0 (bodyOf Try.f3) 1000 (initL [] 0) [] (finK Try.prog none Try.f3.results.toList (.bool true)) := (n3 _).mpr ⟨rfl, rfl⟩
  refine call_loops sp3_ok Try.func3 Try.ntmps3 (by kernel_rfl) (loopsOf_ok ?_) h
  have e : loopsOf 0 (bodyOf Try.f3) = [lcode Try.f3 0] := by kernel_rfl
  rw [e]
  intro p hp
  simp only [List.mem_cons, List.not_mem_nil, or_false] at hp
  subst hp
  exact lsAdd_hit lp3
end GoL
