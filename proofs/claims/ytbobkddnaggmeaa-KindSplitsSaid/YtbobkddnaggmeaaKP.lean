/- A part of the proof: a logic for programs of this kind, proved sound over the model; contracts of functions; plain laws. -/
import Derived.Test.YtbobkddnaggmeaaKN
import Derived.Test.YtbobkddnaggmeaaKL
import Derived.Test.YtbobkddnaggmeaaKT
set_option linter.all false
open Go Go.Proofs
namespace GoL
set_option linter.unusedVariables false
set_option linter.unusedSimpArgs false
set_option maxRecDepth 8000
theorem se24 : StructEq Try.prog 24 := structEq_of Try.underlying24 (by kernel_rfl) (by decide) (by decide) Try.underlying3 Try.underlying3 rfl rfl Try.eqGuardType24
theorem sp20_ok : SpOk Try.prog sp20 := spNil_ok
theorem c20 (m a : Int)  : CallP Try.prog 20 [.int .i64 m, .int .i64 a] (.agg [.int .i64 (made m a).m, .int .i64 (made m a).a]) := by
  refine call_plain sp20_ok Try.func20 Try.ntmps20 (by kernel_rfl) ((n20 m a _).mpr ?_)
  (repeat' (first | (refine And.intro ?_ ?_) | (intro x hx; subst hx) | (intro _))) <;> (first | exact se24 | rfl | (simp only [made, *, if_true, if_false, Bool.false_eq_true, cond_true, cond_false, ↓reduceIte]; done) | (simp only [made, *, if_true, if_false, Bool.false_eq_true, cond_true, cond_false, ↓reduceIte]; first | rfl | (simp; done)) | skip)
theorem b20_ok (args : List V) (k : V → Prop) (h : b20 args k) : ∃ r, CallP Try.prog 20 args r ∧ k r := by
  unfold b20 at h
  split at h
  · exact ⟨_, c20 _ _ , h⟩
  · exact h.elim
theorem sp19_ok : SpOk Try.prog sp19 := spAdd_ok b20_ok (spNil_ok)
theorem c19 (m a : Int)  : CallP Try.prog 19 [.agg [.int .i64 m, .int .i64 a]] (.agg [.int .i64 (made m a).m, .int .i64 (made m a).a]) := by
  refine call_plain sp19_ok Try.func19 Try.ntmps19 (by kernel_rfl) ((n19 m a _).mpr ?_)
  (repeat' (first | (refine And.intro ?_ ?_) | (intro x hx; subst hx) | (intro _))) <;> (first | exact se24 | rfl | (simp only [made, *, if_true, if_false, Bool.false_eq_true, cond_true, cond_false, ↓reduceIte]; done) | (simp only [made, *, if_true, if_false, Bool.false_eq_true, cond_true, cond_false, ↓reduceIte]; first | rfl | (simp; done)) | skip)
theorem b19_ok (args : List V) (k : V → Prop) (h : b19 args k) : ∃ r, CallP Try.prog 19 args r ∧ k r := by
  unfold b19 at h
  split at h
  · exact ⟨_, c19 _ _ , h⟩
  · exact h.elim
theorem sp7_ok : SpOk Try.prog sp7 := spNil_ok
theorem c7 (m a : Int)  : CallP Try.prog 7 [.agg [.int .i64 m, .int .i64 a]] (.agg [.int .i64 m, .int .i64 a]) := by
  refine call_plain sp7_ok Try.func7 Try.ntmps7 (by kernel_rfl) ((n7 m a _).mpr ?_)
  (repeat' (first | (refine And.intro ?_ ?_) | (intro x hx; subst hx) | (intro _))) <;> (first | exact se24 | rfl | (simp only [made, *, if_true, if_false, Bool.false_eq_true, cond_true, cond_false, ↓reduceIte]; done) | (simp only [made, *, if_true, if_false, Bool.false_eq_true, cond_true, cond_false, ↓reduceIte]; first | rfl | (simp; done)) | skip)
theorem b7_ok (args : List V) (k : V → Prop) (h : b7 args k) : ∃ r, CallP Try.prog 7 args r ∧ k r := by
  unfold b7 at h
  split at h
  · exact ⟨_, c7 _ _ , h⟩
  · exact h.elim
theorem sp8_ok : SpOk Try.prog sp8 := spNil_ok
theorem c8 (m a : Int)  : CallP Try.prog 8 [.agg [.int .i64 m, .int .i64 a]] (.agg [.int .i64 (norm m a).m, .int .i64 (norm m a).a]) := by
  refine call_plain sp8_ok Try.func8 Try.ntmps8 (by kernel_rfl) ((n8 m a _).mpr ?_)
  (repeat' (first | (refine And.intro ?_ ?_) | (intro x hx; subst hx) | (intro _))) <;> (first | exact se24 | rfl | (simp only [norm, *, if_true, if_false, Bool.false_eq_true, cond_true, cond_false, ↓reduceIte]; done) | (simp only [norm, *, if_true, if_false, Bool.false_eq_true, cond_true, cond_false, ↓reduceIte]; first | rfl | (simp; done)) | skip)
theorem b8_ok (args : List V) (k : V → Prop) (h : b8 args k) : ∃ r, CallP Try.prog 8 args r ∧ k r := by
  unfold b8 at h
  split at h
  · exact ⟨_, c8 _ _ , h⟩
  · exact h.elim
theorem sp9_ok : SpOk Try.prog sp9 := spAdd_ok b19_ok (spAdd_ok b20_ok (spNil_ok))
theorem c9 (m a n b : Int)  : CallP Try.prog 9 [.agg [.int .i64 m, .int .i64 a], .agg [.int .i64 n, .int .i64 b]] (.agg [.int .i64 (join m a n b).m, .int .i64 (join m a n b).a]) := by
  refine call_plain sp9_ok Try.func9 Try.ntmps9 (by kernel_rfl) ((n9 m a n b _).mpr ?_)
  (repeat' (first | (refine And.intro ?_ ?_) | (intro x hx; subst hx) | (intro _))) <;> (first | exact se24 | rfl | (simp only [join, *, if_true, if_false, Bool.false_eq_true, cond_true, cond_false, ↓reduceIte]; done) | (simp only [join, *, if_true, if_false, Bool.false_eq_true, cond_true, cond_false, ↓reduceIte]; first | rfl | (simp; done)) | skip)
theorem b9_ok (args : List V) (k : V → Prop) (h : b9 args k) : ∃ r, CallP Try.prog 9 args r ∧ k r := by
  unfold b9 at h
  split at h
  · exact ⟨_, c9 _ _ _ _ , h⟩
  · exact h.elim
theorem sp10_ok : SpOk Try.prog sp10 := spAdd_ok b19_ok (spNil_ok)
theorem c10 (m a n b : Int)  : CallP Try.prog 10 [.agg [.int .i64 m, .int .i64 a], .agg [.int .i64 n, .int .i64 b]] (.bool (under m a n b)) := by
  refine call_plain sp10_ok Try.func10 Try.ntmps10 (by kernel_rfl) ((n10 m a n b _).mpr ?_)
  (repeat' (first | (refine And.intro ?_ ?_) | (intro x hx; subst hx) | (intro _))) <;> (first | exact se24 | rfl | (simp only [under, *, if_true, if_false, Bool.false_eq_true, cond_true, cond_false, ↓reduceIte]; done) | (simp only [under, *, if_true, if_false, Bool.false_eq_true, cond_true, cond_false, ↓reduceIte]; first | rfl | (simp; done)) | skip)
theorem b10_ok (args : List V) (k : V → Prop) (h : b10 args k) : ∃ r, CallP Try.prog 10 args r ∧ k r := by
  unfold b10 at h
  split at h
  · exact ⟨_, c10 _ _ _ _ , h⟩
  · exact h.elim
theorem sp13_ok : SpOk Try.prog sp13 := spAdd_ok b19_ok (spAdd_ok b20_ok (spNil_ok))
theorem c13 (m a x : Int)  : CallP Try.prog 13 [.agg [.int .i64 m, .int .i64 a], .int .i64 x] (.agg [.int .i64 (meet m a x).m, .int .i64 (meet m a x).a]) := by
  refine call_plain sp13_ok Try.func13 Try.ntmps13 (by kernel_rfl) ((n13 m a x _).mpr ?_)
  (repeat' (first | (refine And.intro ?_ ?_) | (intro x hx; subst hx) | (intro _))) <;> (first | exact se24 | rfl | (simp only [meet, *, if_true, if_false, Bool.false_eq_true, cond_true, cond_false, ↓reduceIte]; done) | (simp only [meet, *, if_true, if_false, Bool.false_eq_true, cond_true, cond_false, ↓reduceIte]; first | rfl | (simp; done)) | skip)
theorem b13_ok (args : List V) (k : V → Prop) (h : b13 args k) : ∃ r, CallP Try.prog 13 args r ∧ k r := by
  unfold b13 at h
  split at h
  · exact ⟨_, c13 _ _ _ , h⟩
  · exact h.elim
theorem sp14_ok : SpOk Try.prog sp14 := spAdd_ok b13_ok (spNil_ok)
theorem c14 (m a x : Int)  : CallP Try.prog 14 [.agg [.int .i64 m, .int .i64 a], .int .i64 x] (.agg [.int .i64 (wout m a x).m, .int .i64 (wout m a x).a]) := by
  refine call_plain sp14_ok Try.func14 Try.ntmps14 (by kernel_rfl) ((n14 m a x _).mpr ?_)
  (repeat' (first | (refine And.intro ?_ ?_) | (intro x hx; subst hx) | (intro _))) <;> (first | exact se24 | rfl | (simp only [wout, *, if_true, if_false, Bool.false_eq_true, cond_true, cond_false, ↓reduceIte]; done) | (simp only [wout, *, if_true, if_false, Bool.false_eq_true, cond_true, cond_false, ↓reduceIte]; first | rfl | (simp; done)) | skip)
theorem b14_ok (args : List V) (k : V → Prop) (h : b14 args k) : ∃ r, CallP Try.prog 14 args r ∧ k r := by
  unfold b14 at h
  split at h
  · exact ⟨_, c14 _ _ _ , h⟩
  · exact h.elim
theorem sp18_ok : SpOk Try.prog sp18 := spAdd_ok b19_ok (spNil_ok)
theorem c18 (m a : Int)  : CallP Try.prog 18 [.agg [.int .i64 m, .int .i64 a]] (.bool (plain m a)) := by
  refine call_plain sp18_ok Try.func18 Try.ntmps18 (by kernel_rfl) ((n18 m a _).mpr ?_)
  (repeat' (first | (refine And.intro ?_ ?_) | (intro x hx; subst hx) | (intro _))) <;> (first | exact se24 | rfl | (simp only [plain, *, if_true, if_false, Bool.false_eq_true, cond_true, cond_false, ↓reduceIte]; done) | (simp only [plain, *, if_true, if_false, Bool.false_eq_true, cond_true, cond_false, ↓reduceIte]; first | rfl | (simp; done)) | skip)
theorem b18_ok (args : List V) (k : V → Prop) (h : b18 args k) : ∃ r, CallP Try.prog 18 args r ∧ k r := by
  unfold b18 at h
  split at h
  · exact ⟨_, c18 _ _ , h⟩
  · exact h.elim
theorem sp11_ok : SpOk Try.prog sp11 := spAdd_ok b9_ok (spNil_ok)
theorem c11   : CallP Try.prog 11 [] (.bool awakeV) := by
  refine call_plain sp11_ok Try.func11 Try.ntmps11 (by kernel_rfl) ((n11  _).mpr ?_)
  (repeat' (first | (refine And.intro ?_ ?_) | (intro x hx; subst hx) | (intro _))) <;> (first | exact se24 | rfl | (simp only [awakeV, *, if_true, if_false, Bool.false_eq_true, cond_true, cond_false, ↓reduceIte]; done) | (simp only [awakeV, *, if_true, if_false, Bool.false_eq_true, cond_true, cond_false, ↓reduceIte]; first | rfl | (simp; done)) | skip)
theorem b11_ok (args : List V) (k : V → Prop) (h : b11 args k) : ∃ r, CallP Try.prog 11 args r ∧ k r := by
  unfold b11 at h
  split at h
  · exact ⟨_, c11  , h⟩
  · exact h.elim
theorem sp16_ok : SpOk Try.prog sp16 := spNil_ok
theorem c16 (x n : Int) (hp : n ≠ 0) : CallP Try.prog 16 [.int .i64 x, .int .i64 n] (.int .i64 (place x n)) := by
  refine call_plain sp16_ok Try.func16 Try.ntmps16 (by kernel_rfl) ((n16 x n _).mpr ?_)
  refine ⟨⟨rfl, hp⟩, fun _ => ?_⟩
  (repeat' (first | (refine And.intro ?_ ?_) | (intro x hx; subst hx) | (intro _))) <;> (first | exact se24 | rfl | (simp only [place, *, if_true, if_false, Bool.false_eq_true, cond_true, cond_false, ↓reduceIte]; done) | (simp only [place, *, if_true, if_false, Bool.false_eq_true, cond_true, cond_false, ↓reduceIte]; first | rfl | (simp; done)) | skip)
theorem b16_ok (args : List V) (k : V → Prop) (h : b16 args k) : ∃ r, CallP Try.prog 16 args r ∧ k r := by
  unfold b16 at h
  split at h
  · exact ⟨_, c16 _ _ h.1, h.2⟩
  · exact h.elim
theorem sp17_ok : SpOk Try.prog sp17 := spAdd_ok b20_ok (spNil_ok)
theorem c17 (kd : Int) (neg : Bool) (ls : List V) (t : List UInt8) (n : Int) (ks : List V)  : CallP Try.prog 17 [.agg [.int .i64 kd, .agg [.bool neg, .list false ls], .str t, .int .i64 n, .list false ks]] (.agg [.int .i64 (ofK kd n ks.length).m, .int .i64 (ofK kd n ks.length).a]) := by
  refine call_plain sp17_ok Try.func17 Try.ntmps17 (by kernel_rfl) ((n17 kd neg ls t n ks _).mpr ?_)
  (repeat' (first | (refine And.intro ?_ ?_) | (intro x hx; subst hx) | (intro _))) <;> (first | exact se24 | rfl | (simp only [ofK, *, if_true, if_false, Bool.false_eq_true, cond_true, cond_false, ↓reduceIte]; done) | (simp only [ofK, *, if_true, if_false, Bool.false_eq_true, cond_true, cond_false, ↓reduceIte]; first | rfl | (simp; done)) | skip)
  all_goals (simp only [decide_eq_false_iff_not] at *; rw [IntKind.wrap_i64]; omega)
theorem b17_ok (args : List V) (k : V → Prop) (h : b17 args k) : ∃ r, CallP Try.prog 17 args r ∧ k r := by
  unfold b17 at h
  split at h
  · exact ⟨_, c17 _ _ _ _ _ _ , h⟩
  · exact h.elim
theorem sp15_ok : SpOk Try.prog sp15 := spAdd_ok b10_ok (spAdd_ok b17_ok (spAdd_ok b19_ok (spNil_ok)))
theorem c15 (m a : Int) (kd : Int) (neg : Bool) (ls : List V) (t : List UInt8) (n : Int) (ks : List V)  : CallP Try.prog 15 [.agg [.int .i64 m, .int .i64 a], .agg [.int .i64 kd, .agg [.bool neg, .list false ls], .str t, .int .i64 n, .list false ks]] (.bool (has m a kd n ks.length)) := by
  refine call_plain sp15_ok Try.func15 Try.ntmps15 (by kernel_rfl) ((n15 m a kd neg ls t n ks _).mpr ?_)
  (repeat' (first | (refine And.intro ?_ ?_) | (intro x hx; subst hx) | (intro _))) <;> (first | exact se24 | rfl | (simp only [has, *, if_true, if_false, Bool.false_eq_true, cond_true, cond_false, ↓reduceIte]; done) | (simp only [has, *, if_true, if_false, Bool.false_eq_true, cond_true, cond_false, ↓reduceIte]; first | rfl | (simp; done)) | skip)
theorem b15_ok (args : List V) (k : V → Prop) (h : b15 args k) : ∃ r, CallP Try.prog 15 args r ∧ k r := by
  unfold b15 at h
  split at h
  · exact ⟨_, c15 _ _ _ _ _ _ _ _ , h⟩
  · exact h.elim
theorem sp6_ok : SpOk Try.prog sp6 := spAdd_ok b7_ok (spAdd_ok b8_ok (spAdd_ok b9_ok (spAdd_ok b10_ok (spAdd_ok b11_ok (spAdd_ok b13_ok (spAdd_ok b14_ok (spAdd_ok b15_ok (spAdd_ok b18_ok (spNil_ok)))))))))
theorem c6 (m a x : Int)  : CallP Try.prog 6 [.agg [.int .i64 m, .int .i64 a], .int .i64 x] (.bool true) := by
  refine call_plain sp6_ok Try.func6 Try.ntmps6 (by kernel_rfl) ((n6 m a x _).mpr ?_)
  have hx := norm_N m a
  generalize norm m a = y at *
  simp only [join_r0, join_l0, under_r0, plain0, meet0, wout511_N hx, has0, awake_true]
  by_cases h0 : y.m = 0
  · simp [h0, se24]
  · simp [h0, Un_none hx h0, se24]
theorem b6_ok (args : List V) (k : V → Prop) (h : b6 args k) : ∃ r, CallP Try.prog 6 args r ∧ k r := by
  unfold b6 at h
  split at h
  · exact ⟨_, c6 _ _ _ , h⟩
  · exact h.elim
theorem sp3_ok : SpOk Try.prog sp3 := spAdd_ok b7_ok (spAdd_ok b8_ok (spAdd_ok b9_ok (spAdd_ok b10_ok (spAdd_ok b11_ok (spNil_ok)))))
theorem c3 (m a n b o c : Int)  : CallP Try.prog 3 [.agg [.int .i64 m, .int .i64 a], .agg [.int .i64 n, .int .i64 b], .agg [.int .i64 o, .int .i64 c]] (.bool true) := by
  refine call_plain sp3_ok Try.func3 Try.ntmps3 (by kernel_rfl) ((n3 m a n b o c _).mpr ?_)
  have hx := norm_N m a
  have hy := norm_N n b
  have hz := norm_N o c
  generalize norm m a = x at *
  generalize norm n b = y at *
  generalize norm o c = z at *
  have e1 : ∀ p q : KT, join p.m p.a q.m q.a = Jn p q := fun _ _ => rfl
  have e2 : ∀ p q : KT, under p.m p.a q.m q.a = Un p q := fun _ _ => rfl
  simp only [e1, e2, eqB, Un_left hx hy, Un_right hx hy, Jn_comm hx hy, Jn_assoc hx hy hz, Jn_idem hx, Un_Jn hx hy, awake_true]
  cases h1 : Un x z
  · simp [se24]
  · cases h2 : Un y z
    · simp [se24]
    · have h3 := Un_lub hx hy hz h1 h2
      simp [se24, h3]
theorem b3_ok (args : List V) (k : V → Prop) (h : b3 args k) : ∃ r, CallP Try.prog 3 args r ∧ k r := by
  unfold b3 at h
  split at h
  · exact ⟨_, c3 _ _ _ _ _ _ , h⟩
  · exact h.elim
theorem sp5_ok : SpOk Try.prog sp5 := spAdd_ok b9_ok (spAdd_ok b10_ok (spAdd_ok b11_ok (spAdd_ok b13_ok (spAdd_ok b16_ok (spAdd_ok b17_ok (spAdd_ok b18_ok (spNil_ok)))))))
theorem c5 (x y : Int)  : CallP Try.prog 5 [.int .i64 x, .int .i64 y] (.bool true) := by
  refine call_plain sp5_ok Try.func5 Try.ntmps5 (by kernel_rfl) ((n5 x y _).mpr ?_)
  have hp := place_rng x 40 (by omega) (by omega)
  have hq := place_rng y 40 (by omega) (by omega)
  generalize place x 40 = p at *
  generalize place y 40 = q at *
  simp only [List.length_replicate, Int.toNat_of_nonneg hp.1, Int.toNat_of_nonneg hq.1, ofK5 hp.1, ofK5 hq.1]
  have h1 : -1 ≤ p := by omega
  have h2 : -1 ≤ q := by omega
  have h3 : -1 ≤ (if p = q then p else -1) := by split <;> omega
  simp only [t1 h1 h2, t2 h1, t2 h3, t4 h3, t5, t6 h1, t7 h1, t8 h1, awake_true]
  have em : ∀ c : Int, (mk 16#64 c).m = 16 := fun _ => rfl
  have ea : ∀ c : Int, (mk 16#64 c).a = c := fun _ => rfl
  simp only [em, ea]
  refine ⟨by decide, by decide, ⟨by omega, by omega, by omega, by omega, trivial⟩, fun _ => ⟨trivial, ⟨by omega, by omega, by omega, by omega, trivial⟩, fun _ => ⟨trivial, ?_⟩⟩⟩
  by_cases hpq : p = q
  · simp [hpq, se24]
  · have h4 : ¬ (-1 = p) := by omega
    have e1 : (p == q) = false := by simpa using hpq
    have e2 : (-1 == p) = false := by simpa using h4
    simp [hpq, h4, se24, e1, e2]
theorem b5_ok (args : List V) (k : V → Prop) (h : b5 args k) : ∃ r, CallP Try.prog 5 args r ∧ k r := by
  unfold b5 at h
  split at h
  · exact ⟨_, c5 _ _ , h⟩
  · exact h.elim
theorem lightL_go {ks : List V} {i n : Int} (h0 : 0 ≤ i) (hi : i < ks.length) (hn : 0 ≤ n) : lightL ks i n = lightL ks (i + 1) (lightV (getV ks i) n) := by
  unfold lightL
  have := wh_step (c := lightC ks) (f := lightS ks) (fun p => 0 ≤ p.1) (fun p => ks.length - p.1.toNat) (fun a ha hc => by simp only [lightC, lightS, Bool.and_eq_true, decide_eq_true_eq] at *; omega) (a := (i, n)) h0 (by simp only [lightC, Bool.and_eq_true, decide_eq_true_eq]; omega)
  exact congrArg Prod.snd this
theorem lightL_stop {ks : List V} {i n : Int} (h : ¬(i < ks.length ∧ 0 ≤ n)) : lightL ks i n = n := by
  unfold lightL
  rw [wh_stop]
  simp only [lightC, Bool.and_eq_false_iff, decide_eq_false_iff_not]
  omega
theorem lp21 {S : V → Prop} (hSp : SpOk Try.prog (sp21 S)) {ks0 : List V} (hk0 : ∀ i : Int, 0 ≤ i → i < ks0.length → S (getV ks0 i) ∧ T36 (getV ks0 i)) : LsOk Try.prog 38 1 [1, 2, 5] [0] (ent21 ks0) (lcode Try.f21 0).2 := by
  intro vs ks1 K h
  unfold ent21 at h
  split at h
  · rename_i _ n i kd neg ls t m ks
    obtain ⟨rfl, hi, hK⟩ := h
    refine loop_rule (hints := noHint) (prs := prsOf []) (Ls := noLs) hSp ends21_0 (γ := Int × Int) (fun g => [.int .i64 g.2, .ptr 0 0 [], .int .i64 g.1]) (fun _ => [⟨none, false, .agg [.int .i64 kd, .agg [.bool neg, .list false ls], .str t, .int .i64 m, .list false ks]⟩]) (fun g => ks.length - g.1.toNat)
      (fun g => 0 ≤ g.1 ∧ K (.exit 0) 1 [(1, .int .i64 (lightL ks g.1 g.2))] []) K (noLoop_ok (by kernel_rfl)) ?_ (i, n) ⟨hi, hK⟩
    rintro ⟨i, n⟩ ⟨hg, hk⟩
    refine (nl21_0 S n i kd neg ls t m ks _ _ _).mpr ?_
    intro hl x1 h1 x2 h2
    subst h1 h2
    simp only [decide_eq_true_eq, decide_eq_false_iff_not]
    refine ⟨fun h3 x h4 => ?_, fun h3 => ?_⟩
    · subst h4
      refine ⟨fun h5 => ?_, fun h5 => ?_⟩
      · simp only [decide_eq_true_eq] at h5
        have hu := hk0 i hg h3
        obtain ⟨kd2, neg2, ls2, t2, m2, ks2, e, _⟩ := ty36 hu.2
        refine ⟨hg, h3, kd2, neg2, ls2, t2, m2, ks2, e, ?_, fun x h => ?_⟩
        · rw [← e]; exact hu.1
        · rw [← e]
          have hx : x = i + 1 := by rw [h, IntKind.wrap_i64]; omega
          subst hx
          refine ⟨(i + 1, lightV (getV ks i) n), by trivial, by trivial, ?_, ?_, ?_⟩
          · show ks.length - (i + 1).toNat < ks.length - i.toNat
            omega
          · show 0 ≤ i + 1
            omega
          · rw [lightL_go hg h3 h5] at hk; exact hk
      · simp only [decide_eq_false_iff_not] at h5
        rw [lightL_stop (fun h => h5 h.2)] at hk
        exact hk
    · rw [lightL_stop (fun h => h3 h.1)] at hk
      exact hk
  · exact h.elim
theorem getV_mem {ks : List V} {i : Int} (h0 : 0 ≤ i) (h : i < ks.length) : getV ks i ∈ ks := by
  have : i.toNat < ks.length := by omega
  unfold getV
  rw [List.getD_eq_getElem?_getD, List.getElem?_eq_getElem this]
  exact List.getElem_mem this
theorem light_any : ∀ (N : Nat) (t : V), sizeOf t ≤ N → T36 t → ∀ n : Int, ∃ m, CallP Try.prog 21 [t, .int .i64 n] (.int .i64 m) := by
  intro N
  induction N with
  | zero => intro t h; cases t <;> simp at h
  | succ N ih =>
    intro t hs ht n
    obtain ⟨kd, neg, ls, st, m, ks, rfl, hks⟩ := ty36 ht
    have hSp : SpOk Try.prog (sp21 fun u => sizeOf u ≤ N ∧ T36 u) := by
      refine spAdd_ok (fun args k h => ?_) spNil_ok
      unfold b21 at h
      split at h
      · rename_i k u n
        obtain ⟨⟨h1, h2⟩, h3⟩ := h
        exact ⟨_, Classical.epsilon_spec (p := fun m => CallP Try.prog 21 [u, .int .i64 n] (.int .i64 m)) (ih u h1 h2 n), h3⟩
      · exact h.elim
    have hsz : ∀ u ∈ ks, sizeOf u ≤ N := by
      intro u hu
      have := List.sizeOf_lt_of_mem hu
      simp at hs
      omega
    refine ⟨if decide (((ls.length : Nat) : Int) > 40) then -1 else if decide (((st.length : Nat) : Int) > 500) then -1 else lightL ks 0 (IntKind.i64.wrap (n - 1)), ?_⟩
    refine call_loops hSp Try.func21 Try.ntmps21 (by kernel_rfl) (loopsOf_ok ?_) ((n21 (fun u => sizeOf u ≤ N ∧ T36 u) kd neg ls st m ks n _).mpr ?_)
    · have e : loopsOf 0 (bodyOf Try.f21) = [lcode Try.f21 0] := by kernel_rfl
      rw [e]
      intro p hp
      simp only [List.mem_cons, List.not_mem_nil, or_false] at hp
      subst hp
      refine lsAdd_hit (lp21 hSp fun i h0 h1 => ?_)
      have := getV_mem h0 h1
      exact ⟨⟨hsz _ this, hks _ this⟩, hks _ this⟩
    · intro x h1 hl y h2 z h3
      subst h1 h2 h3
      refine ⟨fun h => by simp only [h, if_true], fun h hl2 x2 h4 x3 h5 => ?_⟩
      subst h4 h5
      refine ⟨fun h6 => by simp only [h, h6, if_true, if_false, Bool.false_eq_true], fun h6 => ⟨rfl, by decide, by simp only [h, h6, if_false, Bool.false_eq_true]⟩⟩
theorem b21_ok (args : List V) (k : V → Prop) (h : b21 T36 args k) : ∃ r, CallP Try.prog 21 args r ∧ k r := by
  unfold b21 at h
  split at h
  · rename_i k u n
    exact ⟨_, Classical.epsilon_spec (p := fun m => CallP Try.prog 21 [u, .int .i64 n] (.int .i64 m)) (light_any _ u (Nat.le_refl _) h.1 n), h.2⟩
  · exact h.elim
theorem b12_ok (args : List V) (k : V → Prop) (h : b12 args k) : ∃ r, CallP Try.prog 12 args r ∧ k r := by
  unfold b12 at h
  split at h
  · rename_i k u n
    obtain ⟨kd, neg, ls, st, m, ks, rfl, hks⟩ := ty36 h.1
    refine ⟨_, call_plain (spAdd_ok b21_ok spNil_ok) Try.func12 Try.ntmps12 (by kernel_rfl) ((n12 .nils kd neg ls st m ks n _).mpr ?_), h.2⟩
    refine ⟨h.1, ?_⟩
    intro x hx
    subst hx
    rfl
  · exact h.elim

theorem sp4_ok : SpOk Try.prog sp4 := spAdd_ok b7_ok (spAdd_ok b8_ok (spAdd_ok b11_ok (spAdd_ok b12_ok (spAdd_ok b13_ok (spAdd_ok b14_ok (spAdd_ok b15_ok spNil_ok))))))
theorem c4 (m a x kd : Int) (neg : Bool) (ls : List V) (t : List UInt8) (n : Int) (ks : List V) (hp : T36 (.agg [.int .i64 kd, .agg [.bool neg, .list false ls], .str t, .int .i64 n, .list false ks])) :
    CallP Try.prog 4 [.agg [.int .i64 m, .int .i64 a], .int .i64 x, .agg [.int .i64 kd, .agg [.bool neg, .list false ls], .str t, .int .i64 n, .list false ks]] (.bool true) := by
  refine call_plain sp4_ok Try.func4 Try.ntmps4 (by kernel_rfl) ((n4 m a x kd neg ls t n ks _).mpr ?_)
  have hx := norm_N m a
  obtain ⟨q1, q2, q3, q4⟩ := splits hx x kd n ks.length
  generalize norm m a = y at *
  refine ⟨hp, ?_⟩
  rw [q1, q2, q3, awake_true]
  generalize has (meet y.m y.a x).m (meet y.m y.a x).a kd n ks.length = A at *
  generalize has (wout y.m y.a x).m (wout y.m y.a x).a kd n ks.length = B at *
  cases A <;> cases B <;> simp at q4 ⊢
end GoL
