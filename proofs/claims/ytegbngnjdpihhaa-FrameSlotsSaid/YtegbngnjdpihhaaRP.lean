/- A part of the proof: a logic for programs of this kind, proved sound over the model; contracts of functions; plain laws. -/
import Derived.Test.YtegbngnjdpihhaaRN
import Derived.Test.YtegbngnjdpihhaaRL
set_option linter.all false
open Go Go.Proofs
namespace GoL
set_option linter.unusedVariables false
set_option linter.unusedSimpArgs false
set_option maxRecDepth 8000
attribute [local irreducible] wC
theorem m00 : made 0 (-1) = (Int.ofNat 0, Int.negSucc 0) := by decide +kernel
theorem se25 : StructEq Try.prog 25 := structEq_of Try.underlying25 (by kernel_rfl) (by decide) (by decide) Try.underlying3 Try.underlying3 rfl rfl Try.eqGuardType25
theorem sp30_ok : SpOk Try.prog sp30 := spNil_ok
theorem c30 (m a : Int)  : CallP Try.prog 30 [.int .i64 m, .int .i64 a] (.agg [.int .i64 (made m a).1, .int .i64 (made m a).2]) := by
  refine call_plain sp30_ok Try.func30 Try.ntmps30 (by kernel_rfl) ((n30 m a _).mpr ?_)
  (repeat' (first | (refine And.intro ?_ ?_) | (intro x hx; subst hx) | (intro _))) <;> (first | exact se25 | rfl | (simp only [made, *, if_true, if_false, Bool.false_eq_true, cond_true, cond_false, ↓reduceIte]; done) | (simp only [made, *, if_true, if_false, Bool.false_eq_true, cond_true, cond_false, ↓reduceIte]; first | rfl | (simp; done)) | skip)
theorem b30_ok (args : List V) (k : V → Prop) (h : b30 args k) : ∃ r, CallP Try.prog 30 args r ∧ k r := by
  unfold b30 at h
  split at h
  · exact ⟨_, c30 _ _ , h⟩
  · exact h.elim
theorem sp32_ok : SpOk Try.prog sp32 := spAdd_ok b30_ok (spNil_ok)
theorem c32 (m a : Int)  : CallP Try.prog 32 [.agg [.int .i64 m, .int .i64 a]] (.agg [.int .i64 (made m a).1, .int .i64 (made m a).2]) := by
  refine call_plain sp32_ok Try.func32 Try.ntmps32 (by kernel_rfl) ((n32 m a _).mpr ?_)
  (repeat' (first | (refine And.intro ?_ ?_) | (intro x hx; subst hx) | (intro _))) <;> (first | exact se25 | rfl | (simp only [made, *, if_true, if_false, Bool.false_eq_true, cond_true, cond_false, ↓reduceIte]; done) | (simp only [made, *, if_true, if_false, Bool.false_eq_true, cond_true, cond_false, ↓reduceIte]; first | rfl | (simp; done)) | skip)
theorem b32_ok (args : List V) (k : V → Prop) (h : b32 args k) : ∃ r, CallP Try.prog 32 args r ∧ k r := by
  unfold b32 at h
  split at h
  · exact ⟨_, c32 _ _ , h⟩
  · exact h.elim
theorem sp26_ok : SpOk Try.prog sp26 := spAdd_ok b32_ok (spAdd_ok b30_ok (spNil_ok))
theorem c26 (m a n b : Int)  : CallP Try.prog 26 [.agg [.int .i64 m, .int .i64 a], .agg [.int .i64 n, .int .i64 b]] (.agg [.int .i64 (join m a n b).1, .int .i64 (join m a n b).2]) := by
  refine call_plain sp26_ok Try.func26 Try.ntmps26 (by kernel_rfl) ((n26 m a n b _).mpr ?_)
  (repeat' (first | (refine And.intro ?_ ?_) | (intro x hx; subst hx) | (intro _))) <;> (first | exact se25 | rfl | (simp only [join, m00, *, if_true, if_false, Bool.false_eq_true, cond_true, cond_false, ↓reduceIte]; done) | (simp only [join, m00, *, if_true, if_false, Bool.false_eq_true, cond_true, cond_false, ↓reduceIte]; first | rfl | (simp; done)) | skip)
theorem b26_ok (args : List V) (k : V → Prop) (h : b26 args k) : ∃ r, CallP Try.prog 26 args r ∧ k r := by
  unfold b26 at h
  split at h
  · exact ⟨_, c26 _ _ _ _ , h⟩
  · exact h.elim
theorem sp29_ok : SpOk Try.prog sp29 := spAdd_ok b32_ok (spAdd_ok b30_ok (spNil_ok))
theorem c29 (m a x : Int)  : CallP Try.prog 29 [.agg [.int .i64 m, .int .i64 a], .int .i64 x] (.agg [.int .i64 (meet m a x).1, .int .i64 (meet m a x).2]) := by
  refine call_plain sp29_ok Try.func29 Try.ntmps29 (by kernel_rfl) ((n29 m a x _).mpr ?_)
  (repeat' (first | (refine And.intro ?_ ?_) | (intro x hx; subst hx) | (intro _))) <;> (first | exact se25 | rfl | (simp only [meet, *, if_true, if_false, Bool.false_eq_true, cond_true, cond_false, ↓reduceIte]; done) | (simp only [meet, *, if_true, if_false, Bool.false_eq_true, cond_true, cond_false, ↓reduceIte]; first | rfl | (simp; done)) | skip)
theorem b29_ok (args : List V) (k : V → Prop) (h : b29 args k) : ∃ r, CallP Try.prog 29 args r ∧ k r := by
  unfold b29 at h
  split at h
  · exact ⟨_, c29 _ _ _ , h⟩
  · exact h.elim
theorem sp28_ok : SpOk Try.prog sp28 := spAdd_ok b32_ok (spNil_ok)
theorem c28 (m a : Int)  : CallP Try.prog 28 [.agg [.int .i64 m, .int .i64 a]] (.bool (plain m a)) := by
  refine call_plain sp28_ok Try.func28 Try.ntmps28 (by kernel_rfl) ((n28 m a _).mpr ?_)
  (repeat' (first | (refine And.intro ?_ ?_) | (intro x hx; subst hx) | (intro _))) <;> (first | exact se25 | rfl | (simp only [plain, *, if_true, if_false, Bool.false_eq_true, cond_true, cond_false, ↓reduceIte]; done) | (simp only [plain, *, if_true, if_false, Bool.false_eq_true, cond_true, cond_false, ↓reduceIte]; first | rfl | (simp; done)) | skip)
theorem b28_ok (args : List V) (k : V → Prop) (h : b28 args k) : ∃ r, CallP Try.prog 28 args r ∧ k r := by
  unfold b28 at h
  split at h
  · exact ⟨_, c28 _ _ , h⟩
  · exact h.elim
theorem sp19_ok : SpOk Try.prog sp19 := spAdd_ok b29_ok (spNil_ok)
theorem c19 (m a : Int)  : CallP Try.prog 19 [.agg [.int .i64 m, .int .i64 a]] (.agg [.int .i64 (meet m a (-1)).1, .int .i64 (meet m a (-1)).2]) := by
  refine call_plain sp19_ok Try.func19 Try.ntmps19 (by kernel_rfl) ((n19 m a _).mpr ?_)
  (repeat' (first | (refine And.intro ?_ ?_) | (intro x hx; subst hx) | (intro _))) <;> (first | exact se25 | rfl | (simp only [meet, *, if_true, if_false, Bool.false_eq_true, cond_true, cond_false, ↓reduceIte]; done) | (simp only [meet, *, if_true, if_false, Bool.false_eq_true, cond_true, cond_false, ↓reduceIte]; first | rfl | (simp; done)) | skip)
theorem b19_ok (args : List V) (k : V → Prop) (h : b19 args k) : ∃ r, CallP Try.prog 19 args r ∧ k r := by
  unfold b19 at h
  split at h
  · exact ⟨_, c19 _ _ , h⟩
  · exact h.elim
theorem sp24_ok : SpOk Try.prog sp24 := spAdd_ok b19_ok (spNil_ok)
theorem c24 (m a n b : Int)  : CallP Try.prog 24 [.agg [.int .i64 m, .int .i64 a], .agg [.int .i64 n, .int .i64 b]] (.bool (alikeK m a n b)) := by
  refine call_plain sp24_ok Try.func24 Try.ntmps24 (by kernel_rfl) ((n24 m a n b _).mpr ?_)
  (repeat' (first | (refine And.intro ?_ ?_) | (intro x hx; subst hx) | (intro _))) <;> (first | exact se25 | rfl | (simp only [alikeK, *, if_true, if_false, Bool.false_eq_true, cond_true, cond_false, ↓reduceIte]; done) | (simp only [alikeK, *, if_true, if_false, Bool.false_eq_true, cond_true, cond_false, ↓reduceIte]; first | rfl | (simp; done)) | skip)
theorem b24_ok (args : List V) (k : V → Prop) (h : b24 args k) : ∃ r, CallP Try.prog 24 args r ∧ k r := by
  unfold b24 at h
  split at h
  · exact ⟨_, c24 _ _ _ _ , h⟩
  · exact h.elim
theorem sp17_ok : SpOk Try.prog sp17 := spNil_ok
theorem c17   : CallP Try.prog 17 [] (.agg [.int .i64 0, .int .i64 (-1)]) := by
  refine call_plain sp17_ok Try.func17 Try.ntmps17 (by kernel_rfl) ((n17  _).mpr ?_)
  (repeat' (first | (refine And.intro ?_ ?_) | (intro x hx; subst hx) | (intro _))) <;> (first | exact se25 | rfl | (simp only [made, *, if_true, if_false, Bool.false_eq_true, cond_true, cond_false, ↓reduceIte]; done) | (simp only [made, *, if_true, if_false, Bool.false_eq_true, cond_true, cond_false, ↓reduceIte]; first | rfl | (simp; done)) | skip)
theorem b17_ok (args : List V) (k : V → Prop) (h : b17 args k) : ∃ r, CallP Try.prog 17 args r ∧ k r := by
  unfold b17 at h
  split at h
  · exact ⟨_, c17  , h⟩
  · exact h.elim
theorem sp23_ok : SpOk Try.prog sp23 := spAdd_ok b17_ok (spAdd_ok b24_ok (spNil_ok))
theorem c23 (m a : Int)  : CallP Try.prog 23 [.agg [.int .i64 m, .int .i64 a]] (.bool (alikeK m a 0 (-1))) := by
  refine call_plain sp23_ok Try.func23 Try.ntmps23 (by kernel_rfl) ((n23 m a _).mpr ?_)
  (repeat' (first | (refine And.intro ?_ ?_) | (intro x hx; subst hx) | (intro _))) <;> (first | exact se25 | rfl | (simp only [alikeK, *, if_true, if_false, Bool.false_eq_true, cond_true, cond_false, ↓reduceIte]; done) | (simp only [alikeK, *, if_true, if_false, Bool.false_eq_true, cond_true, cond_false, ↓reduceIte]; first | rfl | (simp; done)) | skip)
theorem b23_ok (args : List V) (k : V → Prop) (h : b23 args k) : ∃ r, CallP Try.prog 23 args r ∧ k r := by
  unfold b23 at h
  split at h
  · exact ⟨_, c23 _ _ , h⟩
  · exact h.elim
theorem sp8_ok : SpOk Try.prog sp8 := spNil_ok
theorem c8 (n : Int)  : CallP Try.prog 8 [.int .i64 n] (.agg [.int .i64 4, .int .i64 n, .list false []]) := by
  refine call_plain sp8_ok Try.func8 Try.ntmps8 (by kernel_rfl) ((n8 n _).mpr ?_)
  (repeat' (first | (refine And.intro ?_ ?_) | (intro x hx; subst hx) | (intro _))) <;> (first | exact se25 | rfl | (simp only [made, *, if_true, if_false, Bool.false_eq_true, cond_true, cond_false, ↓reduceIte]; done) | (simp only [made, *, if_true, if_false, Bool.false_eq_true, cond_true, cond_false, ↓reduceIte]; first | rfl | (simp; done)) | skip)
theorem b8_ok (args : List V) (k : V → Prop) (h : b8 args k) : ∃ r, CallP Try.prog 8 args r ∧ k r := by
  unfold b8 at h
  split at h
  · exact ⟨_, c8 _ , h⟩
  · exact h.elim
theorem sp5_ok : SpOk Try.prog sp5 := spNil_ok
theorem c5 (x n : Int) (hp : n ≠ 0) : CallP Try.prog 5 [.int .i64 x, .int .i64 n] (.int .i64 (place x n)) := by
  refine call_plain sp5_ok Try.func5 Try.ntmps5 (by kernel_rfl) ((n5 x n _).mpr ?_)
  refine ⟨⟨rfl, hp⟩, fun _ => ?_⟩
  (repeat' (first | (refine And.intro ?_ ?_) | (intro x hx; subst hx) | (intro _))) <;> (first | exact se25 | rfl | (simp only [place, *, if_true, if_false, Bool.false_eq_true, cond_true, cond_false, ↓reduceIte]; done) | (simp only [place, *, if_true, if_false, Bool.false_eq_true, cond_true, cond_false, ↓reduceIte]; first | rfl | (simp; done)) | skip)
theorem b5_ok (args : List V) (k : V → Prop) (h : b5 args k) : ∃ r, CallP Try.prog 5 args r ∧ k r := by
  unfold b5 at h
  split at h
  · exact ⟨_, c5 _ _ h.1, h.2⟩
  · exact h.elim
theorem arr_len (f : Nat → Int × Int) : (arrF 16 f).length = 16 := by simp [arrF]
theorem arr_get (f : Nat → Int × Int) {j : Nat} (h : j < 16) : (arrF 16 f)[j]? = some (.agg [.int .i64 (f j).1, .int .i64 (f j).2]) := by
  simp [arrF, h]
theorem arr_congr {f g : Nat → Int × Int} (h : ∀ j, j < 16 → f j = g j) : arrF 16 f = arrF 16 g := by
  apply List.map_congr_left
  intro j hj
  rw [h j (by simpa using hj)]
theorem szs_two : ∀ {l : List V}, (∀ v ∈ l, v.sz = 2) → V.szs l = l.length * 2 := fun h => szs_const h
theorem arr_sz (f : Nat → Int × Int) : ∀ v ∈ arrF 16 f, v.sz = 2 := by
  intro v hv
  simp only [arrF, List.mem_map] at hv
  obtain ⟨i, _, rfl⟩ := hv
  rfl
theorem off_arr (f : Nat → Int × Int) {j : Nat} (h : j < 16) : offQ (.agg (arrF 16 f)) [j] = j * 2 := by
  simp only [offQ, V.off, arr_get f h]
  rw [szs_const (z := 2) (fun v hv => arr_sz f v (List.mem_of_mem_take hv))]
  simp [arr_len]; omega
theorem sub_arr (f : Nat → Int × Int) {j : Nat} (h : j < 16) : subQ (.agg (arrF 16 f)) [j] = some (.agg [.int .i64 (f j).1, .int .i64 (f j).2]) := by
  simp only [subQ, V.sub, arr_get f h]
theorem upd_arr (f : Nat → Int × Int) {j : Nat} (m a : Int) (h : j < 16) : updQ (.agg [.int .i64 m, .int .i64 a]) (.agg (arrF 16 f)) [j] = .agg (arrF 16 (setF f j (m, a))) := by
  simp only [updQ, V.upd, arr_get f h]
  congr 1
  apply List.ext_getElem
  · simp [arrF]
  · intro i h1 h2
    simp only [arrF, List.length_set, List.length_map, List.length_range, List.getElem_set, List.getElem_map, List.getElem_range, setF] at *
    by_cases e : j = i
    · subst e; simp
    · rw [if_neg e, if_neg (fun h => e h.symm)]
theorem offP {f : Nat → Int × Int} {i : Int} (h0 : 0 ≤ i) (h1 : i < 16) : offQ (.agg (arrF 16 f)) [Int.toNat i] + 0 = 0 + Int.toNat i * 2 := by rw [off_arr f (by omega)]; omega
theorem subP {f : Nat → Int × Int} {i : Int} {x : V} (hx : x.sz = 2) (h0 : 0 ≤ i) (h1 : i < 16) : ∃ u, subQ (.agg (arrF 16 f)) [Int.toNat i] = some u ∧ x.sz = u.sz := ⟨_, sub_arr f (by omega), hx⟩
theorem updP {f : Nat → Int × Int} {i m a : Int} (h0 : 0 ≤ i) (h1 : i < 16) : V.agg (arrF 16 (setF f i.toNat (m, a))) = updQ (.agg [.int .i64 m, .int .i64 a]) (.agg (arrF 16 f)) [Int.toNat i] := (upd_arr f m a (by omega)).symm
theorem wrap_le {i : Int} (h0 : 0 ≤ i) (h1 : i < 4611686018427387904) : IntKind.wrap IntKind.i64 (i + 1) = i + 1 := by rw [IntKind.wrap_i64]; omega
theorem sp6_ok : SpOk Try.prog sp6 := spAdd_ok b17_ok spNil_ok
theorem lp6 : LsOk Try.prog 21 1003 [0, 2, 3, 5] [1000, 1001] ent6 (lcode Try.f6 0).2 := by
  intro vs ks1 K h
  unfold ent6 at h
  split at h
  · rename_i _ n i t0 X r
    obtain ⟨rfl, rfl, rfl, ⟨f0, rfl⟩, hK⟩ := h
    refine loop_rule (hints := hintOf [(5004, 26), (7004, 26)]) (prs := prsOf []) (Ls := noLs) sp6_ok ends6_0 (γ := Int × (Nat → Int × Int)) (fun g => [.int .i64 n, .ptr 1000 0 [], .ptr 1001 0 [], .int .i64 g.1]) (fun g => [⟨none, false, zS⟩, ⟨none, false, .agg [.agg (arrF 16 g.2), .bool false, .nils, .int .i64 0, .nils]⟩]) (fun g => (16 - g.1).toNat)
      (fun g => 0 ≤ g.1 ∧ g.1 ≤ 16 ∧ ∀ j : Nat, (j : Int) < g.1 → g.2 j = entF n j) K (noLoop_ok (by kernel_rfl)) ?_ (0, f0) ⟨Int.le_refl 0, by show (0 : Int) ≤ 16; decide, fun j hj => by simp only at hj; omega⟩
    rintro ⟨i, f⟩ ⟨h0, h16, hf⟩
    refine (nl6_0 f n i _ _ _).mpr ?_
    simp only at h0 h16 hf
    intro x0 hx0; subst hx0
    refine ⟨fun hx => ?_, fun hx => ?_⟩
    · simp only [decide_eq_true_eq] at hx
      refine ⟨h0, hx, offP h0 hx, subP rfl h0 hx, setF f i.toNat (0, -1), updP h0 hx, ?_⟩
      intro x5 hx5; subst hx5
      refine ⟨fun hx5 => ⟨h0, hx, offP h0 hx, subP rfl h0 hx, setF (setF f i.toNat (0, -1)) i.toNat (127, -1), updP h0 hx, ?_⟩, fun hx5 => ?_⟩
      · simp only [decide_eq_true_eq] at hx5
        intro x hxx
        rw [wrap_le h0 (by omega)] at hxx; subst hxx
        refine ⟨(i + 1, setF (setF f i.toNat (0, -1)) i.toNat (127, -1)), rfl, rfl, by show (16 - (i + 1)).toNat < (16 - i).toNat; omega, by show 0 ≤ i + 1; omega, by show i + 1 ≤ 16; omega, fun j hj => ?_⟩
        simp only [setF]
        split
        · rename_i e
          have : (j : Int) < n := by omega
          simp [entF, this]
        · exact hf j (by simp only at hj; omega)
      · simp only [decide_eq_false_iff_not] at hx5
        intro x hxx
        rw [wrap_le h0 (by omega)] at hxx; subst hxx
        refine ⟨(i + 1, setF f i.toNat (0, -1)), rfl, rfl, by show (16 - (i + 1)).toNat < (16 - i).toNat; omega, by show 0 ≤ i + 1; omega, by show i + 1 ≤ 16; omega, fun j hj => ?_⟩
        simp only [setF]
        split
        · rename_i e
          have : ¬ (j : Int) < n := by omega
          simp [entF, this]
        · exact hf j (by simp only at hj; omega)
    · simp only [decide_eq_false_iff_not] at hx
      have e : arrF 16 f = arrF 16 (entF n) := arr_congr fun j hj => hf j (by omega)
      rw [e]
      exact hK
  · exact h.elim
theorem c6 (n : Int) : CallP Try.prog 6 [.int .i64 n] (.agg [.agg (arrF 16 (entF n)), .bool false, .list false [], .int .i64 0, .list false []]) := by
  refine call_loops sp6_ok Try.func6 Try.ntmps6 (by kernel_rfl) (loopsOf_ok fun p hp => ?_) ((n6 n _).mpr ⟨rfl, rfl, rfl, ⟨zF, rfl⟩, rfl⟩)
  have e : loopsOf 0 (bodyOf Try.f6) = [lcode Try.f6 0] := by kernel_rfl
  rw [e] at hp
  simp only [List.mem_cons, List.not_mem_nil, or_false] at hp
  subst hp
  exact lsAdd_hit lp6
theorem b6_ok (args : List V) (k : V → Prop) (h : b6 args k) : ∃ r, CallP Try.prog 6 args r ∧ k r := by
  unfold b6 at h
  split at h
  · exact ⟨_, c6 _, h _ rfl⟩
  · exact h.elim
theorem kls_sz {ys : List V} (h : KLs ys) : ∀ v, List.Mem v ys → V.sz v = 2 := by
  intro v hv
  obtain ⟨m, a, rfl⟩ := h v hv
  rfl
theorem nls_sz {ys : List V} (h : NLs ys) : ∀ v, List.Mem v ys → V.sz v = 1 := by
  intro v hv
  obtain ⟨m, rfl⟩ := h v hv
  rfl
theorem cpy {l : List V} {x : V} : l.take (List.replicate (Int.toNat (l.length : Int)) x).length ++ (List.replicate (Int.toNat (l.length : Int)) x).drop l.length = l := by simp
theorem sp18_ok : SpOk Try.prog sp18 := spNil_ok
theorem c18 (f : Nat → Int × Int) (fr : Bool) (ys ts : List V) (rm : Int) (h1 : KLs ys) (h2 : ys.length ≤ 1000) (h3 : NLs ts) (h4 : ts.length ≤ 1000) : CallP Try.prog 18 [.agg [.agg (arrF 16 f), .bool fr, .list false ys, .int .i64 rm, .list false ts]] (.agg [.agg (arrF 16 f), .bool fr, .list false ys, .int .i64 rm, .list false ts]) := by
  refine call_plain sp18_ok Try.func18 Try.ntmps18 (by kernel_rfl) ((n18 f fr ys ts rm _).mpr ?_)
  intro _ x1 e1; subst e1
  refine ⟨⟨by omega, by omega, by omega, by omega, rfl⟩, fun _ => ⟨⟨by simp, rfl, rfl, trivial, kls_sz h1, (fun _ => by simp), (fun _ => by simp)⟩, fun _ x9 _ _ x12 e12 => ?_⟩⟩
  subst e12
  refine ⟨⟨by omega, by omega, by omega, by omega, rfl⟩, fun _ => ⟨⟨by simp, rfl, rfl, trivial, nls_sz h3, (fun _ => by simp), (fun _ => by simp)⟩, fun _ x20 _ => ⟨?_, ?_, ?_⟩⟩⟩
  · rw [cpy]; simp
  · rw [cpy]; simp
  · rw [cpy, cpy]
theorem b18_ok (args : List V) (k : V → Prop) (h : b18 args k) : ∃ r, CallP Try.prog 18 args r ∧ k r := by
  unfold b18 at h
  split at h
  · obtain ⟨⟨⟨f, rfl⟩, h1, h2, h3, h4⟩, hk⟩ := h
    exact ⟨_, c18 _ _ _ _ _ h1 h2 h3 h4, hk⟩
  · exact h.elim
theorem sp20_ok : SpOk Try.prog sp20 := spNil_ok
theorem c20 (f : Nat → Int × Int) (fr : Bool) (ys ts : List V) (rm n : Int) : CallP Try.prog 20 [.agg [.agg (arrF 16 f), .bool fr, .list false ys, .int .i64 rm, .list false ts], .int .i64 n] (.bool (slotB fr ys n)) := by
  refine call_plain sp20_ok Try.func20 Try.ntmps20 (by kernel_rfl) ((n20 f fr ys ts rm n _).mpr ?_)
  refine ⟨fun h => ?_, fun h => by simp [slotB, h]⟩
  intro x1 e1; subst e1
  refine ⟨fun h1 => ?_, fun h1 => by simp [slotB, h, h1]⟩
  intro _ x5 e5 x7 e7
  subst e5 e7
  simp only [decide_eq_true_eq] at h1
  simp [slotB, h, h1]
theorem b20_ok (args : List V) (k : V → Prop) (h : b20 args k) : ∃ r, CallP Try.prog 20 args r ∧ k r := by
  unfold b20 at h
  split at h
  · obtain ⟨⟨⟨f, rfl⟩, h1, h2, h3, h4⟩, hk⟩ := h
    exact ⟨_, c20 _ _ _ _ _ _, hk⟩
  · exact h.elim
theorem sp13_ok : SpOk Try.prog sp13 := spAdd_ok b18_ok (spAdd_ok b17_ok spNil_ok)
theorem lp13 : LsOk Try.prog 20 1007 [2, 4, 5] [1000, 1001] ent13 (lcode Try.f13 0).2 := by
  intro vs ks1 K h
  unfold ent13 at h
  split at h
  · rename_i _ i X fr ys rm ts t0
    obtain ⟨hi0, rfl, f0, rfl, hK⟩ := h
    refine loop_rule (hints := hintOf [(5004, 26)]) (prs := prsOf []) (Ls := noLs) sp13_ok ends13_0 (γ := Int × (Nat → Int × Int)) (fun g => [.ptr 1000 0 [], .ptr 1001 0 [], .int .i64 g.1]) (fun g => [⟨none, false, .agg [.agg (arrF 16 g.2), .bool fr, .list false ys, .int .i64 rm, .list false ts]⟩, ⟨none, false, zS⟩]) (fun g => (16 - g.1).toNat)
      (fun g => 0 ≤ g.1 ∧ i ≤ g.1 ∧ (∀ j : Nat, (j : Int) < g.1 → g.2 j = cutF f0 i j) ∧ (∀ j : Nat, g.1 ≤ j → g.2 j = f0 j)) K (noLoop_ok (by kernel_rfl)) ?_ (i, f0) ⟨hi0, Int.le_refl _, fun j hj => by simp only at hj; simp [cutF, hj], fun j hj => rfl⟩
    rintro ⟨j, f⟩ ⟨h0, hij, hf, hg⟩
    refine (nl13_0 f fr ys ts rm j _ _ _).mpr ?_
    simp only at h0 hij hf hg
    intro x0 hx0; subst hx0
    refine ⟨fun hx => ?_, fun hx => ?_⟩
    · simp only [decide_eq_true_eq] at hx
      refine ⟨h0, hx, offP h0 hx, subP rfl h0 hx, setF f j.toNat (0, -1), updP h0 hx, ?_⟩
      intro x hxx
      rw [wrap_le h0 (by omega)] at hxx; subst hxx
      refine ⟨(j + 1, setF f j.toNat (0, -1)), rfl, rfl, by show (16 - (j + 1)).toNat < (16 - j).toNat; omega, by show 0 ≤ j + 1; omega, by show i ≤ j + 1; omega, fun k hk => ?_, fun k hk => ?_⟩
      · simp only at hk
        simp only [setF]
        split
        · have : ¬ (k : Int) < i := by omega
          simp [cutF, this]
        · exact hf k (by omega)
      · simp only at hk
        simp only [setF]
        rw [if_neg (by omega)]
        exact hg k (by omega)
    · simp only [decide_eq_false_iff_not] at hx
      have e : arrF 16 f = arrF 16 (cutF f0 i) := arr_congr fun k hk => hf k (by omega)
      rw [e]
      exact hK
  · exact h.elim
theorem c13 (f : Nat → Int × Int) (fr : Bool) (ys ts : List V) (rm n : Int) (hs : SOk (arrF 16 f) ys ts) : CallP Try.prog 13 [.agg [.agg (arrF 16 f), .bool fr, .list false ys, .int .i64 rm, .list false ts], .int .i64 n] (.agg [.agg (arrF 16 (cutF f (if 0 < (if 16 < n then 16 else n) then (if 16 < n then 16 else n) else 0))), .bool fr, .list false ys, .int .i64 rm, .list false ts]) := by
  refine call_loops sp13_ok Try.func13 Try.ntmps13 (by kernel_rfl) (loopsOf_ok fun p hp => ?_) ((n13 f fr ys ts rm n _).mpr ⟨hs, fun z0 e0 z2 e2 => ⟨?_, rfl, f, rfl, ?_⟩⟩)
  · have e : loopsOf 0 (bodyOf Try.f13) = [lcode Try.f13 0] := by kernel_rfl
    rw [e] at hp
    simp only [List.mem_cons, List.not_mem_nil, or_false] at hp
    subst hp
    exact lsAdd_hit lp13
  · rw [e2]; split <;> omega
  · rw [e2, e0]
theorem b13_ok (args : List V) (k : V → Prop) (h : b13 args k) : ∃ r, CallP Try.prog 13 args r ∧ k r := by
  unfold b13 at h
  split at h
  · obtain ⟨f, rfl, hs, hk⟩ := h
    exact ⟨_, c13 _ _ _ _ _ _ hs, hk _ rfl⟩
  · exact h.elim
theorem drop_getV {xs : List V} {i : Int} (h0 : 0 ≤ i) (h1 : i < xs.length) : xs.drop i.toNat = getV xs i :: xs.drop (i + 1).toNat := by
  have h : i.toNat < xs.length := by omega
  rw [List.drop_eq_getElem_cons h, show (i + 1).toNat = i.toNat + 1 by omega]
  simp [getV, List.getD, h]
theorem getV_mem {xs : List V} {i : Int} (h0 : 0 ≤ i) (h1 : i < xs.length) : getV xs i ∈ xs := by
  have h : i.toNat < xs.length := by omega
  simp [getV, List.getD, h]
theorem klsG {xs : List V} (hx : KLs xs) {i : Int} (h0 : 0 ≤ i) (h1 : i < xs.length) : ∃ m a : Int, getV xs i = .agg [.int .i64 m, .int .i64 a] := hx _ (getV_mem h0 h1)
theorem drop_end {xs : List V} {i : Int} (h1 : ¬ i < xs.length) : xs.drop i.toNat = [] := List.drop_eq_nil_of_le (by omega)
theorem sp25_ok : SpOk Try.prog sp25 := spNil_ok
theorem lp25 : LsOk Try.prog 26 1009 [0, 1, 12, 13] [] ent25 (lcode Try.f25 0).2 := by
  intro vs ks1 K h
  unfold ent25 at h
  split at h
  · rename_i _ xs ys n i
    obtain ⟨rfl, rfl, hK⟩ := h
    refine loop_rule (hints := noHint) (prs := prsOf [(6, [[], [], [0, 1], [2, 0, 1], [], [], [4, 5], [6, 4, 5], [3, 2, 0, 1, 7, 6, 4, 5]])]) (Ls := noLs) sp25_ok ends25_0 (γ := Unit) (fun g => [.list false xs, .list false ys, .int .i64 0, .int .i64 0]) (fun g => []) (fun _ => 0) (fun _ => True) K (noLoop_ok (by kernel_rfl)) ?_ () trivial
    rintro _ _
    refine (nl25_0 xs ys 0 0 _ _ _).mpr ?_
    intro x0 hx0; subst hx0
    exact ⟨fun h => by simp at h, fun _ => hK⟩
  · exact h.elim
theorem c25 : CallP Try.prog 25 [.list false [], .list false []] (.bool true) := by
  refine call_loops sp25_ok Try.func25 Try.ntmps25 (by kernel_rfl) (loopsOf_ok fun p hp => ?_) ((n25 [] [] _).mpr ?_)
  · have e : loopsOf 0 (bodyOf Try.f25) = [lcode Try.f25 0] := by kernel_rfl
    rw [e] at hp
    simp only [List.mem_cons, List.not_mem_nil, or_false] at hp
    subst hp
    exact lsAdd_hit lp25
  · intro _ x1 e1 _ x4 e4 x6 e6
    subst e1 e4 e6
    refine ⟨fun h => by simp at h, fun _ _ x11 e11 => ?_⟩
    subst e11
    exact ⟨rfl, rfl, rfl⟩
theorem b25_ok (args : List V) (k : V → Prop) (h : b25 args k) : ∃ r, CallP Try.prog 25 args r ∧ k r := by
  unfold b25 at h
  split at h
  · obtain ⟨rfl, rfl, hk⟩ := h
    exact ⟨_, c25, hk⟩
  · exact h.elim
theorem sp27_ok : SpOk Try.prog sp27 := spAdd_ok b24_ok spNil_ok
theorem lp27 : LsOk Try.prog 32 1009 [1, 2, 15, 16, 17] [] ent27 (lcode Try.f27 0).2 := by
  intro vs ks1 K h
  unfold ent27 at h
  split at h
  · rename_i _ ys xs n i
    obtain ⟨rfl, rfl, hl, hb, hx, hy, hK1, hK2⟩ := h
    refine loop_rule (hints := noHint) (prs := prsOf []) (Ls := noLs) sp27_ok ends27_0 (γ := Int) (fun g => [.list false ys, .fn 24 [], .list false xs, .int .i64 xs.length, .int .i64 g]) (fun g => []) (fun g => (xs.length - g).toNat)
      (fun g => 0 ≤ g ∧ (eqKs (xs.drop g.toNat) (ys.drop g.toNat) = true → K (.exit 0) 1009 [] []) ∧ (eqKs (xs.drop g.toNat) (ys.drop g.toNat) = false → K .ret 1009 [(6, .gd true (.bool false))] [])) K (noLoop_ok (by kernel_rfl)) ?_ 0 ⟨Int.le_refl _, by simpa using hK1, by simpa using hK2⟩
    rintro i ⟨h0, hE, hR⟩
    refine (nl27_0 xs ys _ i _ _ _).mpr ?_
    intro x0 hx0; subst hx0
    refine ⟨fun h => ?_, fun h => ?_⟩
    · simp only [decide_eq_true_eq] at h
      have h' : i < ys.length := by omega
      obtain ⟨m, a, e1⟩ := klsG hx h0 h
      obtain ⟨n, b, e2⟩ := klsG hy h0 h'
      rw [drop_getV h0 h, drop_getV h0 h', e1, e2] at hE hR
      simp only [eqKs] at hE hR
      refine ⟨h0, h, m, a, e1, h0, h', n, b, e2, fun x7 e7 => ?_⟩
      subst e7
      refine ⟨fun h7 => ?_, fun h7 x e => ?_⟩
      · have h7 : alikeK m a n b = false := by simpa using h7
        exact hR (by rw [h7]; rfl)
      · have h7 : alikeK m a n b = true := by simpa using h7
        rw [wrap_le h0 (by omega)] at e; subst e
        rw [h7] at hE hR
        refine ⟨i + 1, rfl, rfl, by show (xs.length - (i + 1)).toNat < (xs.length - i).toNat; omega, by show 0 ≤ i + 1; omega, by simpa using hE, by simpa using hR⟩
    · simp only [decide_eq_false_iff_not] at h
      rw [drop_end h, drop_end (by omega)] at hE
      exact hE rfl
  · exact h.elim
theorem c27 (xs ys : List V) (hx : KLs xs) (hy : KLs ys) (hl : xs.length = ys.length) (hb : xs.length ≤ 100000) : CallP Try.prog 27 [.list false xs, .list false ys, .fn 24 []] (.bool (eqKs xs ys)) := by
  refine call_loops sp27_ok Try.func27 Try.ntmps27 (by kernel_rfl) (loopsOf_ok fun p hp => ?_) ((n27 xs ys _).mpr ?_)
  · have e : loopsOf 0 (bodyOf Try.f27) = [lcode Try.f27 0] := by kernel_rfl
    rw [e] at hp
    simp only [List.mem_cons, List.not_mem_nil, or_false] at hp
    subst hp
    exact lsAdd_hit lp27
  · intro _ x1 e1 _ x4 e4 x6 e6
    subst e1 e4 e6
    refine ⟨fun h => by simp [hl] at h, fun _ _ x11 e11 => ?_⟩
    subst e11
    exact ⟨rfl, rfl, hl, hb, hx, hy, fun h => by rw [h], fun h => by rw [h]⟩
theorem b27_ok (args : List V) (k : V → Prop) (h : b27 args k) : ∃ r, CallP Try.prog 27 args r ∧ k r := by
  unfold b27 at h
  split at h
  · obtain ⟨h1, h2, h3, h4, hk⟩ := h
    exact ⟨_, c27 _ _ h1 h2 h3 h4, hk⟩
  · exact h.elim
theorem sp15_ok : SpOk Try.prog sp15 := spAdd_ok b28_ok (spAdd_ok b19_ok spNil_ok)
theorem lp15 : LsOk Try.prog 30 1013 [15, 16, 17] [] ent15 (lcode Try.f15 0).2 := by
  intro vs ks1 K h
  unfold ent15 at h
  split at h
  · rename_i _ xs n i
    obtain ⟨rfl, rfl, hb, hx, hK1, hK2⟩ := h
    refine loop_rule (hints := noHint) (prs := prsOf []) (Ls := noLs) sp15_ok ends15_0 (γ := Int) (fun g => [.list false xs, .int .i64 xs.length, .int .i64 g]) (fun g => []) (fun g => (xs.length - g).toNat)
      (fun g => 0 ≤ g ∧ (goods (xs.drop g.toNat) = true → K (.exit 0) 1013 [] []) ∧ (goods (xs.drop g.toNat) = false → K .ret 1013 [(4, .gd true (.bool false))] [])) K (noLoop_ok (by kernel_rfl)) ?_ 0 ⟨Int.le_refl _, by simpa using hK1, by simpa using hK2⟩
    rintro i ⟨h0, hE, hR⟩
    refine (nl15_0 xs _ i _ _ _).mpr ?_
    intro x0 hx0; subst hx0
    refine ⟨fun h => ?_, fun h => ?_⟩
    · simp only [decide_eq_true_eq] at h
      obtain ⟨m, a, e1⟩ := klsG hx h0 h
      rw [drop_getV h0 h, e1] at hE hR
      simp only [goods] at hE hR
      have nx : goodK m a = true → ∃ g' : Int, ([.list false xs, .int .i64 (xs.length : Int), .int .i64 (i + 1)] : List V) = [.list false xs, .int .i64 (xs.length : Int), .int .i64 g'] ∧ ([] : List Blk) = [] ∧ (xs.length - g').toNat < (xs.length - i).toNat ∧ 0 ≤ g' ∧ (goods (xs.drop g'.toNat) = true → K (.exit 0) 1013 [] []) ∧ (goods (xs.drop g'.toNat) = false → K .ret 1013 [(4, .gd true (.bool false))] []) := fun hg => by
        rw [hg] at hE hR
        exact ⟨i + 1, rfl, rfl, by omega, by omega, by simpa using hE, by simpa using hR⟩
      refine ⟨h0, h, m, a, e1, fun hp x e => ?_, fun hp x9 e9 => ?_⟩
      · rw [wrap_le h0 (by omega)] at e; subst e
        exact nx (by simp [goodK, hp])
      · subst e9
        refine ⟨fun h9 x e => ?_, fun h9 => ?_⟩
        · rw [wrap_le h0 (by omega)] at e; subst e
          exact nx (by simp only [goodK, hp]; exact h9)
        · refine hR ?_
          have : goodK m a = false := by simp only [goodK, hp]; exact h9
          rw [this]; rfl
    · simp only [decide_eq_false_iff_not] at h
      rw [drop_end h] at hE
      exact hE rfl
  · exact h.elim
theorem arr_kls (f : Nat → Int × Int) : KLs (arrF 16 f) := by
  intro v hv
  simp only [arrF, List.mem_map] at hv
  obtain ⟨i, _, rfl⟩ := hv
  exact ⟨_, _, rfl⟩
theorem kls_take {xs : List V} (h : KLs xs) (n : Nat) : KLs (xs.take n) := fun v hv => h v (List.mem_of_mem_take hv)
theorem c15 (f : Nat → Int × Int) (fr : Bool) (ys ts : List V) (rm n : Int) : CallP Try.prog 15 [.agg [.agg (arrF 16 f), .bool fr, .list false ys, .int .i64 rm, .list false ts], .int .i64 n] (.bool (liveB f n)) := by
  refine call_loops sp15_ok Try.func15 Try.ntmps15 (by kernel_rfl) (loopsOf_ok fun p hp => ?_) ((n15 f fr ys ts rm n _).mpr ?_)
  · have e : loopsOf 0 (bodyOf Try.f15) = [lcode Try.f15 0] := by kernel_rfl
    rw [e] at hp
    simp only [List.mem_cons, List.not_mem_nil, or_false] at hp
    subst hp
    exact lsAdd_hit lp15
  · intro x0 e0; subst e0
    refine ⟨fun h => by simp only [liveB, h, if_true], fun h x4 e4 => ?_⟩
    subst e4
    refine ⟨fun h4 => by simp only [liveB, h, h4, if_true]; rfl, fun h4 => ?_⟩
    have h' : 0 ≤ n := by simpa using h
    have h4' : n ≤ 16 := by simpa using h4
    refine ⟨h', h4', fun ys8 e8 _ x11 e11 => ?_⟩
    have el : liveB f n = goods ys8 := by rw [e8]; simp only [liveB, h, h4]; rfl
    have hlen : ys8.length ≤ 100000 := by rw [e8]; simp [arr_len]; omega
    refine ⟨rfl, e11, hlen, by rw [e8]; exact kls_take (arr_kls f) _, fun h => by rw [el, h], fun h => by rw [el, h]⟩
theorem b15_ok (args : List V) (k : V → Prop) (h : b15 args k) : ∃ r, CallP Try.prog 15 args r ∧ k r := by
  unfold b15 at h
  split at h
  · obtain ⟨f, rfl, hk⟩ := h
    exact ⟨_, c15 _ _ _ _ _ _, hk⟩
  · exact h.elim
theorem off_arr0 (f : Nat → Int × Int) (r : List V) {j : Nat} (h : j < 16) : offQ (.agg (.agg (arrF 16 f) :: r)) [0, j] = 0 + j * 2 := by
  have := off_arr f h
  simp only [offQ] at this ⊢
  simp only [V.off, List.getElem?_cons_zero, List.take_zero, V.szs] at this ⊢
  exact (congrArg (0 + ·) this)
theorem sub_arr0 (f : Nat → Int × Int) (r : List V) {j : Nat} (h : j < 16) : subQ (.agg (.agg (arrF 16 f) :: r)) [0, j] = some (.agg [.int .i64 (f j).1, .int .i64 (f j).2]) := by
  have := sub_arr f h
  simp only [subQ] at this ⊢
  simp only [V.sub, List.getElem?_cons_zero] at this ⊢
  exact this
theorem offP0 {f : Nat → Int × Int} {r : List V} {i : Int} (h0 : 0 ≤ i) (h1 : i < 16) : offQ (.agg (.agg (arrF 16 f) :: r)) [0, Int.toNat i] = 0 + Int.toNat i * 2 := off_arr0 f r (by omega)
theorem subP0 {f : Nat → Int × Int} {r : List V} {i : Int} (h0 : 0 ≤ i) (h1 : i < 16) : subQ (.agg (.agg (arrF 16 f) :: r)) [0, Int.toNat i] = some (.agg [.int .i64 (f i.toNat).1, .int .i64 (f i.toNat).2]) := sub_arr0 f r (by omega)
theorem sp12_ok : SpOk Try.prog sp12 := spAdd_ok b18_ok (spAdd_ok b25_ok (spAdd_ok b26_ok spNil_ok))
theorem sok0 (f : Nat → Int × Int) : SOk (arrF 16 f) [] [] := ⟨⟨f, rfl⟩, (fun _ h => by cases h), by simp, (fun _ h => by cases h), by simp⟩
theorem lp12_0 : LsOk Try.prog 87 1035 [2, 3, 4, 6, 38] [1000, 1001, 1002, 1032] ent12_0 (lcode Try.f12 0).2 := by
  intro vs ks1 K h
  unfold ent12_0 at h
  split at h
  · obtain ⟨f, g, h0, rfl, rfl, rfl, rfl, he, hK⟩ := h
    simp only [List.cons.injEq, and_true] at he
    obtain ⟨rfl, rfl, rfl, rfl, rfl, rfl, rfl, rfl, rfl, rfl, rfl, rfl, rfl⟩ := he
    refine loop_rule (hints := hintOf [(7004, 25), (7008, 25), (7012, 26)]) (prs := prsOf [(7, [[], [], [], [2, 1], [3, 2, 1], [], [], [6, 5], [7, 6, 5], [4, 3, 2, 1, 8, 7, 6, 5], [], [10, 0, 1, 2, 3, 4, 5, 6, 7, 8, 9], [11, 10, 0, 1, 2, 3, 4, 5, 6, 7, 8, 9]]), (14, [[], [0], [], [], [3], [], [4, 3, 5], [6, 4, 3, 5], [], [8], [], [9, 8, 10], [11, 9, 8, 10], [7, 6, 4, 3, 5, 12, 11, 9, 8, 10], [1, 0, 2, 3, 4, 5, 6, 7, 8, 9, 10, 11, 12, 13], [14, 1, 0, 2, 3, 4, 5, 6, 7, 8, 9, 10, 11, 12, 13]])]) (Ls := noLs) sp12_ok ends12_0 (γ := Int × (Nat → Int × Int)) (fun g => [.ptr 1000 0 [], .ptr 1001 0 [], .ptr 1002 0 [], .ptr 1032 0 [], .int .i64 g.1]) (fun h => [⟨none, false, .agg [.agg (arrF 16 f), .bool false, .list false [], .int .i64 0, .list false []]⟩, ⟨none, false, .agg [.agg (arrF 16 g), .bool false, .list false [], .int .i64 0, .list false []]⟩, ⟨none, false, zS⟩, ⟨none, false, .agg [.agg (arrF 16 h.2), .bool false, .list false [], .int .i64 0, .list false []]⟩]) (fun g => (16 - g.1).toNat)
      (fun h => 0 ≤ h.1 ∧ ∀ j : Nat, (j : Int) < h.1 → h.2 j = joinF f g j) K (noLoop_ok (by kernel_rfl)) ?_ (0, h0) ⟨Int.le_refl _, fun j hj => by simp only at hj; omega⟩
    rintro ⟨i, h⟩ ⟨hi, hf⟩
    refine (nl12_0 f g h i _ _ _).mpr ?_
    simp only at hi hf
    intro x0 e0; subst e0
    refine ⟨fun hx => ?_, fun hx => ?_⟩
    · simp only [decide_eq_true_eq] at hx
      refine ⟨hi, hx, _, _, subP0 hi hx, offP0 hi hx, hi, hx, _, _, subP0 hi hx, offP0 hi hx, hi, hx, offP hi hx, subP rfl hi hx, setF h i.toNat (join (f i.toNat).1 (f i.toNat).2 (g i.toNat).1 (g i.toNat).2), updP hi hx, ?_⟩
      intro x e
      rw [wrap_le hi (by omega)] at e; subst e
      refine ⟨(i + 1, setF h i.toNat (join (f i.toNat).1 (f i.toNat).2 (g i.toNat).1 (g i.toNat).2)), rfl, rfl, by show (16 - (i + 1)).toNat < (16 - i).toNat; omega, by show 0 ≤ i + 1; omega, fun j hj => ?_⟩
      simp only at hj
      simp only [setF]
      split
      · rename_i e; subst e; rfl
      · exact hf j (by omega)
    · simp only [decide_eq_false_iff_not] at hx
      have e : arrF 16 h = arrF 16 (joinF f g) := arr_congr fun k hk => hf k (by omega)
      rw [e]
      exact hK
  · exact h.elim
theorem lp12_1 : LsOk Try.prog 87 1042 [2, 3, 4, 6, 60, 61] [1000, 1001, 1002, 1032] ent12_1 (lcode Try.f12 1).2 := by
  intro vs ks1 K h
  unfold ent12_1 at h
  split at h
  · obtain ⟨f, g, h0, rfl, rfl, rfl, rfl, rfl, he, hK⟩ := h
    simp only [List.cons.injEq, and_true] at he
    obtain ⟨rfl, rfl, rfl, rfl, rfl, rfl, rfl, rfl, rfl, rfl, rfl, rfl, rfl⟩ := he
    refine loop_rule (hints := hintOf [(7004, 25), (7008, 25), (7012, 26)]) (prs := prsOf [(7, [[], [], [], [2, 1], [3, 2, 1], [], [], [6, 5], [7, 6, 5], [4, 3, 2, 1, 8, 7, 6, 5], [], [10, 0, 1, 2, 3, 4, 5, 6, 7, 8, 9], [11, 10, 0, 1, 2, 3, 4, 5, 6, 7, 8, 9]]), (14, [[], [0], [], [], [3], [], [4, 3, 5], [6, 4, 3, 5], [], [8], [], [9, 8, 10], [11, 9, 8, 10], [7, 6, 4, 3, 5, 12, 11, 9, 8, 10], [1, 0, 2, 3, 4, 5, 6, 7, 8, 9, 10, 11, 12, 13], [14, 1, 0, 2, 3, 4, 5, 6, 7, 8, 9, 10, 11, 12, 13]])]) (Ls := noLs) sp12_ok ends12_1 (γ := Unit) (fun g => [.ptr 1000 0 [], .ptr 1001 0 [], .ptr 1002 0 [], .ptr 1032 0 [], .int .i64 0, .int .i64 0]) (fun h => [⟨none, false, .agg [.agg (arrF 16 f), .bool false, .list false [], .int .i64 0, .list false []]⟩, ⟨none, false, .agg [.agg (arrF 16 g), .bool false, .list false [], .int .i64 0, .list false []]⟩, ⟨none, false, zS⟩, ⟨none, false, .agg [.agg (arrF 16 h0), .bool false, .nils, .int .i64 0, .list false []]⟩]) (fun g => 0)
      (fun h => True) K (noLoop_ok (by kernel_rfl)) ?_ () trivial
    rintro _ _
    refine (nl12_1 f g h0 _ _ _).mpr ?_
    intro x0 e0
    have e0 : x0 = false := e0
    subst e0
    exact ⟨fun h => (by cases h), fun _ => hK⟩
  · exact h.elim
theorem c12 (f g : Nat → Int × Int) : CallP Try.prog 12 [.agg [.agg (arrF 16 f), .bool false, .list false [], .int .i64 0, .list false []], .agg [.agg (arrF 16 g), .bool false, .list false [], .int .i64 0, .list false []]] (.tup [.agg [.agg (arrF 16 (joinF f g)), .bool false, .list false [], .int .i64 0, .list false []], .bool true]) := by
  refine call_loops sp12_ok Try.func12 Try.ntmps12 (by kernel_rfl) (loopsOf_ok fun p hp => ?_) ((n12 f g _).mpr ?_)
  · have e : loopsOf 0 (bodyOf Try.f12) = [lcode Try.f12 0, lcode Try.f12 1] := by kernel_rfl
    rw [e] at hp
    simp only [List.mem_cons, List.not_mem_nil, or_false] at hp
    rcases hp with rfl | rfl
    · exact lsAdd_hit lp12_0
    · exact lsAdd_miss (by kernel_rfl) (lsAdd_hit lp12_1)
  · intro x0 e0
    have e0 : x0 = false := e0
    subst e0
    refine ⟨fun h => (by cases h), fun _ => ⟨fun h => (by cases h), fun _ => ⟨fun h => (by cases h), fun _ => ⟨rfl, rfl, fun x1 e1 => ?_⟩⟩⟩⟩
    have e1 : x1 = false := e1
    subst e1
    refine ⟨fun h => (by cases h), fun _ => ⟨sok0 f, f, g, f, rfl, rfl, rfl, rfl, rfl, fun x2 e2 => ?_⟩⟩
    have e2 : x2 = true := e2
    subst e2
    refine ⟨fun _ => ⟨f, g, _, rfl, rfl, rfl, rfl, rfl, rfl, fun z e => ?_⟩, fun h => by cases h⟩
    have e : z = 0 := e
    subst e
    rfl
theorem b12_ok (args : List V) (k : V → Prop) (h : b12 args k) : ∃ r, CallP Try.prog 12 args r ∧ k r := by
  unfold b12 at h
  split at h
  · obtain ⟨f, g, rfl, rfl, he, hk⟩ := h
    simp only [List.cons.injEq, and_true] at he
    obtain ⟨rfl, rfl, rfl, rfl, rfl, rfl, rfl, rfl⟩ := he
    exact ⟨_, c12 f g, hk _ rfl⟩
  · exact h.elim
theorem sp14_ok : SpOk Try.prog sp14 := spAdd_ok b25_ok (spAdd_ok b27_ok spNil_ok)
theorem kls0 : KLs [] := fun _ h => by cases h
theorem c14 (f g : Nat → Int × Int) : CallP Try.prog 14 [.agg [.agg (arrF 16 f), .bool false, .list false [], .int .i64 0, .list false []], .agg [.agg (arrF 16 g), .bool false, .list false [], .int .i64 0, .list false []]] (.bool (sameB f g)) := by
  refine call_plain sp14_ok Try.func14 Try.ntmps14 (by kernel_rfl) ((n14 f g _).mpr ?_)
  intro x0 e0
  have e0 : x0 = false := e0
  subst e0
  refine ⟨fun h => (by cases h), fun _ => fun x1 e1 => ?_⟩
  have e1 : x1 = false := e1
  subst e1
  refine ⟨fun h => (by cases h), fun _ => ⟨rfl, rfl, fun x2 e2 => ?_⟩⟩
  have e2 : x2 = false := e2
  subst e2
  refine ⟨fun h => (by cases h), fun _ => ⟨fun h => (by cases h), fun _ => ⟨fun h => (by cases h), fun _ => fun y1 e1 y2 e2 => ?_⟩⟩⟩
  subst e1 e2
  exact ⟨arr_kls f, arr_kls g, by rw [arr_len, arr_len], by rw [arr_len]; decide, rfl⟩
theorem b14_ok (args : List V) (k : V → Prop) (h : b14 args k) : ∃ r, CallP Try.prog 14 args r ∧ k r := by
  unfold b14 at h
  split at h
  · obtain ⟨f, g, rfl, rfl, he, hk⟩ := h
    simp only [List.cons.injEq, and_true] at he
    obtain ⟨rfl, rfl, rfl, rfl, rfl, rfl, rfl, rfl⟩ := he
    exact ⟨_, c14 f g, hk⟩
  · exact h.elim
theorem sp16_ok : SpOk Try.prog sp16 := spAdd_ok b12_ok (spAdd_ok b14_ok spNil_ok)
theorem c16 (f g : Nat → Int × Int) : CallP Try.prog 16 [.agg [.agg (arrF 16 f), .bool false, .list false [], .int .i64 0, .list false []], .agg [.agg (arrF 16 g), .bool false, .list false [], .int .i64 0, .list false []]] (.bool (sameB (joinF f g) g)) := by
  refine call_plain sp16_ok Try.func16 Try.ntmps16 (by kernel_rfl) ((n16 f g _).mpr ?_)
  refine ⟨f, g, rfl, rfl, rfl, fun h e => ⟨fun _ => ⟨h, g, rfl, rfl, rfl, by rw [e]⟩, fun h => by cases h⟩⟩
theorem b16_ok (args : List V) (k : V → Prop) (h : b16 args k) : ∃ r, CallP Try.prog 16 args r ∧ k r := by
  unfold b16 at h
  split at h
  · obtain ⟨f, g, rfl, rfl, he, hk⟩ := h
    simp only [List.cons.injEq, and_true] at he
    obtain ⟨rfl, rfl, rfl, rfl, rfl, rfl, rfl, rfl⟩ := he
    exact ⟨_, c16 f g, hk⟩
  · exact h.elim
theorem sp31_ok : SpOk Try.prog sp31 := spAdd_ok b23_ok spNil_ok
theorem idxF_cases : ∀ {ys : List V} (i : Int), KLs ys → 0 ≤ i → idxF ys i = -1 ∨ 0 ≤ idxF ys i
  | [], i, h, hi => .inl rfl
  | v :: r, i, h, hi => by
    obtain ⟨m, a, rfl⟩ := h v (by simp)
    simp only [idxF]
    split
    · exact .inr hi
    · exact idxF_cases (i + 1) (fun u hu => h u (by simp [hu])) (by omega)
theorem lp31 : LsOk Try.prog 19 1004 [0, 1, 7, 8] [] ent31 (lcode Try.f31 0).2 := by
  intro vs ks1 K h
  unfold ent31 at h
  split at h
  · rename_i _ ys n i
    obtain ⟨rfl, rfl, hb, hy, hK1, hK2⟩ := h
    refine loop_rule (hints := noHint) (prs := prsOf []) (Ls := noLs) sp31_ok ends31_0 (γ := Int) (fun g => [.list false ys, .fn 23 [], .int .i64 ys.length, .int .i64 g]) (fun g => []) (fun g => (ys.length - g).toNat)
      (fun g => 0 ≤ g ∧ idxF (ys.drop g.toNat) g = idxF ys 0) K (noLoop_ok (by kernel_rfl)) ?_ 0 ⟨Int.le_refl _, by simp⟩
    rintro i ⟨h0, hI⟩
    refine (nl31_0 ys _ i _ _ _).mpr ?_
    intro x0 hx0; subst hx0
    refine ⟨fun h => ?_, fun h => ?_⟩
    · simp only [decide_eq_true_eq] at h
      obtain ⟨m, a, e1⟩ := klsG hy h0 h
      rw [drop_getV h0 h, e1] at hI
      simp only [idxF] at hI
      refine ⟨h0, h, m, a, e1, fun h7 => ?_, fun h7 x e => ?_⟩
      · rw [if_pos h7] at hI
        rw [hI]
        exact hK2 (by rw [← hI]; exact h0)
      · rw [wrap_le h0 (by omega)] at e; subst e
        rw [if_neg (by rw [h7]; decide)] at hI
        exact ⟨i + 1, rfl, rfl, by show (ys.length - (i + 1)).toNat < (ys.length - i).toNat; omega, by show 0 ≤ i + 1; omega, hI⟩
    · simp only [decide_eq_false_iff_not] at h
      rw [drop_end h] at hI
      exact hK1 hI.symm
  · exact h.elim
theorem c31 (ys : List V) (hy : KLs ys) (hb : ys.length ≤ 100000) : CallP Try.prog 31 [.list false ys, .fn 23 []] (.int .i64 (idxF ys 0)) := by
  refine call_loops sp31_ok Try.func31 Try.ntmps31 (by kernel_rfl) (loopsOf_ok fun p hp => ?_) ((n31 ys _).mpr ?_)
  · have e : loopsOf 0 (bodyOf Try.f31) = [lcode Try.f31 0] := by kernel_rfl
    rw [e] at hp
    simp only [List.mem_cons, List.not_mem_nil, or_false] at hp
    subst hp
    exact lsAdd_hit lp31
  · intro _ x1 e1
    exact ⟨rfl, e1, hb, hy, fun h => by rw [h], fun h => rfl⟩
theorem b31_ok (args : List V) (k : V → Prop) (h : b31 args k) : ∃ r, CallP Try.prog 31 args r ∧ k r := by
  unfold b31 at h
  split at h
  · obtain ⟨h1, h2, hk⟩ := h
    exact ⟨_, c31 _ h1 h2, hk⟩
  · exact h.elim
theorem sp22_ok : SpOk Try.prog sp22 := spAdd_ok b31_ok spNil_ok
theorem c22 (ys : List V) (hy : KLs ys) (hb : ys.length ≤ 100000) : CallP Try.prog 22 [.list false ys, .fn 23 []] (.bool (decide (idxF ys 0 ≥ 0))) := by
  refine call_plain sp22_ok Try.func22 Try.ntmps22 (by kernel_rfl) ((n22 ys _).mpr ⟨hy, hb, fun x e => by rw [e]⟩)
theorem b22_ok (args : List V) (k : V → Prop) (h : b22 args k) : ∃ r, CallP Try.prog 22 args r ∧ k r := by
  unfold b22 at h
  split at h
  · obtain ⟨h1, h2, hk⟩ := h
    exact ⟨_, c22 _ h1 h2, hk⟩
  · exact h.elim
theorem sp10_ok : SpOk Try.prog sp10 := spAdd_ok b22_ok spNil_ok
theorem c10 (f : Nat → Int × Int) (fr : Bool) (ys ts : List V) (rm : Int) (hy : KLs ys) (hb : ys.length ≤ 1000) : CallP Try.prog 10 [.agg [.agg (arrF 16 f), .bool fr, .list false ys, .int .i64 rm, .list false ts]] (.bool (readyB fr ys)) := by
  refine call_plain sp10_ok Try.func10 Try.ntmps10 (by kernel_rfl) ((n10 f fr ys ts rm _).mpr ?_)
  intro x0 e0; subst e0
  refine ⟨fun h => ?_, fun h => ⟨hy, by omega, fun x e => ?_⟩⟩
  · have : fr = false := by simpa using h
    subst this; rfl
  · have : fr = true := by simpa using h
    subst this; rw [e]; rfl
theorem b10_ok (args : List V) (k : V → Prop) (h : b10 args k) : ∃ r, CallP Try.prog 10 args r ∧ k r := by
  unfold b10 at h
  split at h
  · obtain ⟨⟨⟨f, rfl⟩, h1, h2, h3, h4⟩, hk⟩ := h
    exact ⟨_, c10 _ _ _ _ _ h1 h2, hk⟩
  · exact h.elim
theorem sp11_ok : SpOk Try.prog sp11 := spAdd_ok b6_ok (spAdd_ok b15_ok spNil_ok)
theorem c11 : CallP Try.prog 11 [] (.bool true) := by
  refine call_plain (r := .bool true) (args := []) (N := 29) (hint := none) (hints := noHint) (prs := prsOf []) sp11_ok Try.func11 Try.ntmps11 (by kernel_rfl) ((n11 _).mpr ?_)
  intro f e; subst e
  have a0 : ((entF 1 0).1 == 127) = true := by decide
  have a1 : ((entF 1 1).1 == 0) = true := by decide
  have a2 : liveB (entF 1) 1 = true := live_ent (by decide) (by decide)
  have a3 : liveB (entF 1) 2 = false := live_not (p := 1) (by decide) (by decide)
  refine ⟨by decide, by decide, fun x e => ?_⟩
  rw [a0] at e; subst e
  refine ⟨fun _ => ⟨by decide, by decide, fun x e => ?_⟩, fun h => (by cases h)⟩
  rw [a1] at e; subst e
  refine ⟨fun _ => fun x e => ?_, fun h => (by cases h)⟩
  have e : x = true := e
  subst e
  refine ⟨fun _ => ⟨entF 1, rfl, fun _ => ⟨entF 1, rfl, fun x e => ?_⟩, fun h => ?_⟩, fun h => (by cases h)⟩
  · rw [a3] at e; rw [e]; rfl
  · rw [a2] at h; cases h
theorem b11_ok (args : List V) (k : V → Prop) (h : b11 args k) : ∃ r, CallP Try.prog 11 args r ∧ k r := by
  unfold b11 at h
  split at h
  · exact ⟨_, c11, h⟩
  · exact h.elim
theorem sp4_ok : SpOk Try.prog sp4 := spAdd_ok b5_ok (spAdd_ok b6_ok (spAdd_ok b12_ok (spAdd_ok b13_ok (spAdd_ok b14_ok (spAdd_ok b15_ok (spAdd_ok b16_ok (spAdd_ok b10_ok (spAdd_ok b11_ok spNil_ok))))))))
theorem c4 (a b c : Int) : CallP Try.prog 4 [.int .i64 a, .int .i64 b, .int .i64 c] (.bool true) := by
  refine call_plain sp4_ok Try.func4 Try.ntmps4 (by kernel_rfl) ((n4 a b c _).mpr ?_)
  have hp := place_rng (x := a) (n := 17) (by omega) (by omega)
  have hq := place_rng (x := b) (n := 17) (by omega) (by omega)
  have hc := place_rng (x := c) (n := 18) (by omega) (by omega)
  generalize place a 17 = p at *
  generalize place b 17 = q at *
  generalize place c 18 = d at *
  refine ⟨by decide, by decide, by decide, ?_⟩
  intro f0 e0 f2 e2
  subst e0 e2
  refine ⟨_, _, rfl, rfl, rfl, fun h6 e6 => ⟨_, rfl, sok0 _, fun g9 e9 => ⟨fun _ => ?_, fun h => (by cases h)⟩⟩⟩
  rw [joinE] at e6
  rw [cutE] at e9
  have e9' : arrF 16 g9 = arrF 16 (entF (if d < p then d else p)) := by
    rw [e9]
    by_cases h17 : d = 17
    · subst h17
      by_cases h16 : p = 16
      · subst h16; rfl
      · congr 2; simp; omega
    · congr 2
      split <;> split <;> omega
  intro z12 ez f14 e14
  refine ⟨h6, f14, rfl, rfl, rfl, ?_⟩
  have s1 : sameB h6 f14 = true := by rw [e6, e14, ez]; exact same_refl _
  refine ⟨fun _ => ?_, fun h => by rw [s1] at h; cases h⟩
  intro z19 ez19 f21 e21
  refine ⟨entF (if d < p then d else p), f21, e9', rfl, rfl, ?_⟩
  have s2 : sameB (entF (if d < p then d else p)) f21 = true := by rw [e21, ez19]; exact same_refl _
  refine ⟨fun _ => ⟨entF p, rfl, ?_⟩, fun h => by rw [s2] at h; cases h⟩
  have l1 : liveB (entF p) p = true := live_ent hp.1 (by omega)
  refine ⟨fun _ => ?_, fun h => by rw [l1] at h; cases h⟩
  intro x28 e28
  have hm : 0 ≤ (if d < p then d else p) ∧ (if d < p then d else p) ≤ 16 := by constructor <;> split <;> omega
  have l2 : liveB (entF (if d < p then d else p)) (if d < p then d else p) = true := live_ent hm.1 hm.2
  have u1 : sameB (joinF (entF p) (entF q)) (entF q) = decide (q ≤ p) := by
    rw [joinE, same_ent (by split <;> omega) (by split <;> omega) (by omega)]
    congr 1
    apply propext
    constructor <;> intro h <;> (split at * <;> omega)
  have rest : ∀ z : Int, (z = if d < p then d else p) → ∃ f34 : Nat → Int × Int, arrF 16 g9 = arrF 16 f34 ∧ (liveB f34 z = true → ∃ f36 g37, arrF 16 (entF p) = arrF 16 f36 ∧ arrF 16 (entF q) = arrF 16 g37 ∧ ([V.bool false, V.list false [], V.int IntKind.i64 0, V.list false [], V.bool false, V.list false [], V.int IntKind.i64 0, V.list false []] = [V.bool false, V.list false [], V.int IntKind.i64 0, V.list false [], V.bool false, V.list false [], V.int IntKind.i64 0, V.list false []]) ∧ ∀ x38 : Bool, x38 = decide (q ≤ p) → ∀ x40 : Bool, x40 = (sameB (joinF f36 g37) g37 == x38) → (x40 = true → SOk (arrF 16 (entF p)) [] [] ∧ (readyB false [] = true → V.bool true = V.bool true) ∧ (readyB false [] = false → V.bool true = V.bool false)) ∧ (x40 = false → V.bool true = V.bool false)) ∧ (liveB f34 z = false → V.bool true = V.bool false) := by
    intro z ez
    subst ez
    refine ⟨entF (if d < p then d else p), e9', fun _ => ⟨entF p, entF q, rfl, rfl, rfl, fun x38 e38 x40 e40 => ?_⟩, fun h => by rw [l2] at h; cases h⟩
    rw [u1, e38] at e40
    simp only [beq_self_eq_true] at e40
    subst e40
    exact ⟨fun _ => ⟨sok0 _, fun _ => rfl, fun h => (by cases h)⟩, fun h => (by cases h)⟩
  refine ⟨fun _ => ⟨fun _ => rest, fun h => (by cases h)⟩, fun h28 => ?_⟩
  intro x49 e49
  refine ⟨entF p, rfl, fun x52 e52 => ?_⟩
  have h16 : p ≠ 16 := by
    rw [e28] at h28
    intro e; subst e; cases h28
  have l3 : liveB (entF p) x49 = false := by
    rw [e49, wrap_le hp.1 (by omega)]
    exact live_not hp.1 (by omega)
  rw [l3] at e52
  have e52 : x52 = true := e52
  subst e52
  exact ⟨fun _ => rest, fun h => (by cases h)⟩
end GoL
