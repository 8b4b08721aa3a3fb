/- A part of the proof: a logic for programs of this kind, proved sound over the model; contracts of functions; plain laws. -/
import Derived.Test.YtjnagpmhkpkngaaAN
import Derived.Test.YtjnagpmhkpkngaaTP
set_option linter.all false
open Go Go.Proofs
namespace GoL
set_option linter.unusedVariables false
set_option linter.unusedSimpArgs false
set_option maxRecDepth 8000
theorem dec_true {p : Prop} (h : p) : dec p = true := by unfold dec; exact @decide_eq_true p (Classical.propDecidable p) h
theorem dec_false {p : Prop} (h : ¬ p) : dec p = false := by unfold dec; exact @decide_eq_false p (Classical.propDecidable p) h
theorem dec_T : dec True = true := dec_true trivial
theorem dec_F : dec False = false := dec_false (fun h => h)
theorem dec_iff {p : Prop} : dec p = true ↔ p := by
  refine ⟨fun h => ?_, dec_true⟩
  by_cases hp : p
  · exact hp
  · rw [dec_false hp] at h; cases h
theorem AllS_step {p : Int → Prop} {n d i : Int} (h : i < n) : AllS p n d i ↔ p i ∧ AllS p n d (i + d) := by
  constructor
  · intro H
    refine ⟨?_, fun m hm => ?_⟩
    · have := H 0 (by simpa using h)
      simpa using this
    · have e : i + ((m + 1 : Nat) : Int) * d = i + d + m * d := by
        have : ((m + 1 : Nat) : Int) = (m : Int) + 1 := by omega
        rw [this, Int.add_mul, Int.one_mul]; omega
      have := H (m + 1) (by rw [e]; exact hm)
      rw [e] at this
      exact this
  · rintro ⟨H0, H⟩ m hm
    cases m with
    | zero => simpa using H0
    | succ m =>
      have e : i + ((m + 1 : Nat) : Int) * d = i + d + m * d := by
        have : ((m + 1 : Nat) : Int) = (m : Int) + 1 := by omega
        rw [this, Int.add_mul, Int.one_mul]; omega
      rw [e] at hm ⊢
      exact H m hm
theorem AllS_stop {p : Int → Prop} {n d i : Int} (hd : 0 ≤ d) (h : n ≤ i) : AllS p n d i := fun m hm => by
  have : 0 ≤ (m : Int) * d := Int.mul_nonneg (by omega) hd
  omega
theorem len3a {α : Type} {l : List α} (h : l.length = 3) : ∃ a b c, l = [a, b, c] := by
  match l, h with
  | [a, b, c], _ => exact ⟨a, b, c, rfl⟩
abbrev T28 (v : V) : Prop := Typed Try.prog reachBytes 28 v
theorem ty3a {v : V} (h : Typed Try.prog reachBytes 3 v) : ∃ n : Int, v = .int .i64 n := by
  obtain ⟨n, rfl, _⟩ := h.int_inv Try.underlying3
  exact ⟨n, rfl⟩
theorem ty28 {v : V} (h : T28 v) : ∃ (t n : Int) (ls : List V), v = .agg [.int .i64 t, .int .i64 n, .list false ls] ∧ ∀ u ∈ ls, T28 u := by
  obtain ⟨vs, rfl, hl, hf⟩ := h.struct_inv Try.underlying28
  obtain ⟨a, b, c, rfl⟩ := len3a hl
  obtain ⟨t, rfl⟩ := ty3a (hf 0 _ a rfl rfl)
  obtain ⟨n, rfl⟩ := ty3a (hf 1 _ b rfl rfl)
  obtain ⟨ls, rfl, _, hk⟩ := (hf 2 _ c rfl rfl).list_inv Try.underlying26
  exact ⟨t, n, ls, rfl, hk⟩
theorem getV_mem {ks : List V} {i : Int} (h0 : 0 ≤ i) (h : i < ks.length) : getV ks i ∈ ks := by
  have : i.toNat < ks.length := by omega
  unfold getV
  rw [List.getD_eq_getElem?_getD, List.getElem?_eq_getElem this]
  exact List.getElem_mem this
theorem sp35_ok : SpOk Try.prog sp35 := spAdd_ok b36_ok (spAdd_ok b37_ok (spNil_ok))
theorem lp35 : LsOk Try.prog 21 1000 [6, 7, 8] [] ent35 (lcode Try.f35 0).2 := by
  intro vs ks K h
  unfold ent35 at h
  split at h
  · rename_i ls n i
    obtain ⟨rfl, rfl, hl, ht, hK1, hK2⟩ := h
    refine loop_rule (hints := noHint) (prs := prsOf []) (Ls := noLs) sp35_ok ends35_0 (γ := Int) (fun i => [.list false ls, .int .i64 ls.length, .int .i64 i]) (fun _ => []) (fun i => ls.length - i.toNat)
      (fun i => 0 ≤ i ∧ (AllS (listP ls) ls.length 1 i → K (.exit 0) 1000 [] []) ∧ (¬ AllS (listP ls) ls.length 1 i → K .ret 1000 [(2, .gd true (.bool false))] [])) K (noLoop_ok (by kernel_rfl)) ?_ 0 ⟨by omega, hK1, hK2⟩
    rintro i ⟨h0, h1, h2⟩
    refine (nl35_0 ls _ i _ _ _).mpr ?_
    intro x hx; subst hx
    refine ⟨fun h3 => ?_, fun h3 => ?_⟩
    · simp only [decide_eq_true_eq] at h3
      obtain ⟨t, n, l, e, _⟩ := ty28 (ht _ (getV_mem h0 h3))
      have hs := AllS_step (p := listP ls) (d := 1) h3
      have hp : listP ls i ↔ (!plainB t n l) = false ∧ (!srcB t n) = false := by
        unfold listP plainV srcV; rw [e]; exact Iff.rfl
      refine ⟨h0, h3, t, n, l, e, fun x hx => ⟨fun h4 => ?_, fun h4 y hy => ⟨fun h5 => ?_, fun h5 z hz => ?_⟩⟩⟩
      · exact h2 fun hA => by have := (hp.1 (hs.1 hA).1).1; rw [← hx, h4] at this; cases this
      · exact h2 fun hA => by have := (hp.1 (hs.1 hA).1).2; rw [← hy, h5] at this; cases this
      · have hz' : z = i + 1 := by rw [hz, IntKind.wrap_i64]; omega
        subst hz'
        have hpi : listP ls i := hp.2 ⟨by rw [← hx, h4], by rw [← hy, h5]⟩
        refine ⟨i + 1, rfl, rfl, ?_, by omega, fun hA => h1 (hs.2 ⟨hpi, hA⟩), fun hA => h2 fun hB => hA (hs.1 hB).2⟩
        show ls.length - (i + 1).toNat < ls.length - i.toNat
        omega
    · simp only [decide_eq_false_iff_not] at h3
      exact h1 (AllS_stop (by omega) (by omega))
  · exact h.elim
theorem c35 (t n : Int) (ls : List V) (ht : ∀ u ∈ ls, T28 u) : CallP Try.prog 35 [.agg [.int .i64 t, .int .i64 n, .list false ls]] (.bool (dec (AllS (listP ls) ls.length 1 0))) := by
  refine call_loops sp35_ok Try.func35 Try.ntmps35 (by kernel_rfl) (loopsOf_ok ?_) ((n35 t n ls _).mpr ?_)
  · have e : loopsOf 0 (bodyOf Try.f35) = [lcode Try.f35 0] := by kernel_rfl
    rw [e]
    intro p hp
    simp only [List.mem_cons, List.not_mem_nil, or_false] at hp
    subst hp
    exact lsAdd_hit lp35
  · intro hl x hx
    subst hx
    exact ⟨rfl, rfl, hl, ht, fun h => by rw [dec_true h], fun h => by rw [dec_false h]⟩
theorem sp40_ok : SpOk Try.prog sp40 := spNil_ok
theorem c40 (t n : Int) (ls : List V) : CallP Try.prog 40 [.agg [.int .i64 t, .int .i64 n, .list false ls]] (.bool (regB t n)) := by
  have ht : True := trivial
  refine call_plain sp40_ok Try.func40 Try.ntmps40 (by kernel_rfl) ((n40 t n ls _).mpr ?_)
  (repeat' (first | exact ht | (refine And.intro ?_ ?_) | (intro x hx; subst hx) | (intro _))) <;> (first | rfl | (simp only [regB, dec_T, dec_F, *, if_true, if_false, Bool.false_eq_true, ↓reduceIte]; done) | (simp only [regB, dec_T, dec_F, *, if_true, if_false, Bool.false_eq_true, ↓reduceIte]; first | rfl | (simp; done)) | (exfalso; simp_all; done) | skip)
theorem b40_ok (args : List V) (k : V → Prop) (h : b40 args k) : ∃ r, CallP Try.prog 40 args r ∧ k r := by
  unfold b40 at h
  split at h
  · exact ⟨_, c40 _ _ _ , h⟩
  · exact h.elim
theorem sp39_ok : SpOk Try.prog sp39 := spAdd_ok b40_ok (spNil_ok)
theorem srcB_reg {t n : Int} (h : regB t n = true) : srcB t n = true := by unfold srcB; split; rfl; split; rfl; split; rfl; exact h
theorem srcB_no {t n : Int} (h : regB t n = false) : srcB t n = if (t == 1) then true else if (t == 2) then true else (t == 6) := by unfold srcB; rw [h]; split; rfl; split; rfl; split; (rename_i h3; rw [h3]); rename_i h3; simpa using h3
theorem c39 (t n : Int) (ls : List V) : CallP Try.prog 39 [.agg [.int .i64 t, .int .i64 n, .list false ls]] (.bool (srcB t n)) := by
  refine call_plain sp39_ok Try.func39 Try.ntmps39 (by kernel_rfl) ((n39 t n ls _).mpr ?_)
  refine ⟨fun h => by rw [srcB_reg h], fun h => ?_⟩
  rw [srcB_no h]
  have ht : True := trivial
  (repeat' (first | exact ht | (refine And.intro ?_ ?_) | (intro x hx; subst hx) | (intro _))) <;> (first | rfl | (simp only [if_true, dec_T, dec_F, *, if_true, if_false, Bool.false_eq_true, ↓reduceIte]; done) | (simp only [if_true, dec_T, dec_F, *, if_true, if_false, Bool.false_eq_true, ↓reduceIte]; first | rfl | (simp; done)) | (exfalso; simp_all; done) | skip)
theorem b39_ok (args : List V) (k : V → Prop) (h : b39 args k) : ∃ r, CallP Try.prog 39 args r ∧ k r := by
  unfold b39 at h
  split at h
  · exact ⟨_, c39 _ _ _ , h⟩
  · exact h.elim
theorem c32a (t n : Int) (ls : List V) (hp : (t == 7) = false) : CallP Try.prog 32 [.agg [.int .i64 t, .int .i64 n, .list false ls]] (.bool (chk0 t n ls)) := by
  refine call_loops (Ls := noLs) spNil_ok Try.func32 Try.ntmps32 (by kernel_rfl) (loopsOf_ok fun p _ n s H K h => h.elim) ((n32a t n ls _).mpr ?_)
  have ht : True := trivial
  (repeat' (first | exact ht | (refine And.intro ?_ ?_) | (intro x hx; subst hx) | (intro _))) <;> (first | rfl | (simp only [chk0, dec_T, dec_F, *, if_true, if_false, Bool.false_eq_true, ↓reduceIte]; done) | (simp only [chk0, dec_T, dec_F, *, if_true, if_false, Bool.false_eq_true, ↓reduceIte]; first | rfl | (simp; done)) | (exfalso; simp_all; done) | skip)
theorem b32_ok (args : List V) (k : V → Prop) (h : b32 args k) : ∃ r, CallP Try.prog 32 args r ∧ k r := by
  unfold b32 at h
  split at h
  · exact ⟨_, c32a _ _ _ h.1, h.2⟩
  · exact h.elim
theorem sp32_ok : SpOk Try.prog sp32 := spAdd_ok b32_ok spNil_ok
theorem lp32 : LsOk Try.prog 80 1001 [1, 3] [1000] ent32 (lcode Try.f32 0).2 := by
  intro vs ks K h
  unfold ent32 at h
  split at h
  · rename_i i t n ls
    obtain ⟨rfl, ht, hK1, hK2⟩ := h
    refine loop_rule (hints := noHint) (prs := prsOf []) (Ls := noLs) sp32_ok ends32_0 (γ := Int) (fun i => [.ptr 1000 0 [], .int .i64 i]) (fun _ => [⟨none, false, .agg [.int .i64 t, .int .i64 n, .list false ls]⟩]) (fun i => ls.length - i.toNat)
      (fun i => 0 ≤ i ∧ (AllS (subOk ls) ls.length 1 i → K (.exit 1) 1001 [(1, .ptr 1000 0 [])] [(1000, ⟨none, false, .agg [.int .i64 t, .int .i64 n, .list false ls]⟩)]) ∧ (¬ AllS (subOk ls) ls.length 1 i → K .ret 1001 [(2, .gd true (.bool false))] [])) K (noLoop_ok (by kernel_rfl)) ?_ 0 ⟨by omega, hK1, hK2⟩
    rintro i ⟨h0, h1, h2⟩
    refine (nl32_0 t n ls i _ _ _).mpr ?_
    intro hl y hy x hx; subst hy hx
    refine ⟨fun h3 => ?_, fun h3 => ?_⟩
    · simp only [decide_eq_true_eq] at h3
      obtain ⟨p, q, l, e, _⟩ := ty28 (ht _ (getV_mem h0 h3))
      have hs := AllS_step (p := subOk ls) (d := 1) h3
      have hp : subOk ls i ↔ p ≠ 7 ∧ chk0 p q l = true := by
        unfold subOk; rw [e]; exact Iff.rfl
      refine ⟨h0, h3, p, q, l, e, fun x hx => ⟨fun h4 => ?_, fun h4 => ⟨h0, h3, p, q, l, e, by rw [← hx, h4], fun y hy => ⟨fun h5 => ?_, fun h5 z hz => ?_⟩⟩⟩⟩
      · exact h2 fun hA => (hp.1 (hs.1 hA).1).1 (by rw [hx] at h4; simpa using h4)
      · exact h2 fun hA => by have := (hp.1 (hs.1 hA).1).2; rw [hy, this] at h5; cases h5
      · have hz' : z = i + 1 := by rw [hz, IntKind.wrap_i64]; omega
        subst hz'
        have hpi : subOk ls i := hp.2 ⟨by rw [hx] at h4; simpa using h4, by rw [hy] at h5; simpa using h5⟩
        refine ⟨i + 1, rfl, rfl, ?_, by omega, fun hA => h1 (hs.2 ⟨hpi, hA⟩), fun hA => h2 fun hB => hA (hs.1 hB).2⟩
        show ls.length - (i + 1).toNat < ls.length - i.toNat
        omega
    · simp only [decide_eq_false_iff_not] at h3
      exact h1 (AllS_stop (by omega) (by omega))
  · exact h.elim
theorem c32 (t n : Int) (ls : List V) (ht : ∀ u ∈ ls, T28 u) : CallP Try.prog 32 [.agg [.int .i64 t, .int .i64 n, .list false ls]] (.bool (ck32 t n ls)) := by
  by_cases h7 : (t == 7) = false
  · have := c32a t n ls h7
    unfold ck32
    rw [h7]
    exact this
  · have h7 : t = 7 := by simpa using h7
    subst h7
    refine call_loops sp32_ok Try.func32 Try.ntmps32 (by kernel_rfl) (loopsOf_ok ?_) ((n32 7 n ls _).mpr ?_)
    · have e : loopsOf 0 (bodyOf Try.f32) = [lcode Try.f32 0] := by kernel_rfl
      rw [e]
      intro p hp
      simp only [List.mem_cons, List.not_mem_nil, or_false] at hp
      subst hp
      exact lsAdd_hit lp32
    · intro x hx; subst hx
      refine ⟨fun h => absurd h (by decide), fun _ x hx => ?_⟩
      subst hx
      refine ⟨fun h => absurd h (by decide), fun _ x hx => ?_⟩
      subst hx
      refine ⟨fun h => absurd h (by decide), fun _ => ⟨fun h => (by cases h), fun _ x hx => ?_⟩⟩
      subst hx
      refine ⟨fun h => absurd h (by decide), fun _ x hx => ?_⟩
      subst hx
      refine ⟨fun h => absurd h (by decide), fun _ => ⟨rfl, ht, fun hA x hx => ?_, fun hA => ?_⟩⟩
      · subst hx
        refine ⟨fun h1 hl x hx y hy => ?_, fun h1 => ?_⟩
        · subst hx hy
          simp only [ck32, dec_true hA, h1, beq_self_eq_true, if_true]
        · simp only [ck32, dec_true hA, h1, beq_self_eq_true, if_true, if_false, Bool.false_eq_true]
      · simp only [ck32, dec_false hA, beq_self_eq_true, if_true, if_false, Bool.false_eq_true]
theorem sp41_ok : SpOk Try.prog sp41 := spNil_ok
theorem lp41i : LsOk Try.prog 76 1000 [0, 3, 4] [] ent41i (lin (lcode Try.f41 0) 0).2 := by
  intro vs ks K h
  unfold ent41i at h
  split at h
  · rename_i ls i k
    obtain ⟨rfl, hi0, hi1, hl, ht, hK1, hK2⟩ := h
    refine loop_rule (hints := noHint) (prs := prsOf [(11, [[], [], [0, 1], [2, 0, 1], [3, 2, 0, 1], [], [], [5, 6], [7, 5, 6], [8, 7, 5, 6], [4, 3, 2, 0, 1, 9, 8, 7, 5, 6], [10, 4, 3, 2, 0, 1, 9, 8, 7, 5, 6], [11, 10, 4, 3, 2, 0, 1, 9, 8, 7, 5, 6], [11, 10, 4, 3, 2, 0, 1, 9, 8, 7, 5, 6], [12, 11, 10, 4, 3, 2, 0, 1, 9, 8, 7, 5, 6, 13], [14, 12, 11, 10, 4, 3, 2, 0, 1, 9, 8, 7, 5, 6, 13], [15, 14, 12, 11, 10, 4, 3, 2, 0, 1, 9, 8, 7, 5, 6, 13], [11, 10, 4, 3, 2, 0, 1, 9, 8, 7, 5, 6], [11, 10, 4, 3, 2, 0, 1, 9, 8, 7, 5, 6], [17, 11, 10, 4, 3, 2, 0, 1, 9, 8, 7, 5, 6, 18], [19, 17, 11, 10, 4, 3, 2, 0, 1, 9, 8, 7, 5, 6, 18], [20, 19, 17, 11, 10, 4, 3, 2, 0, 1, 9, 8, 7, 5, 6, 18], [16, 15, 14, 12, 11, 10, 4, 3, 2, 0, 1, 9, 8, 7, 5, 6, 13, 21, 20, 19, 17, 18], [11, 10, 4, 3, 2, 0, 1, 9, 8, 7, 5, 6, 22, 16, 15, 14, 12, 13, 21, 20, 19, 17, 18]])]) (Ls := noLs) sp41_ok ends41_1 (γ := Int) (fun k => [.list false ls, .int .i64 i, .int .i64 k]) (fun _ => []) (fun k => i.toNat - k.toNat)
      (fun k => 0 ≤ k ∧ (AllS (diffP ls i) i 2 k → K (.exit 2) 1000 [(0, .list false ls), (3, .int .i64 i)] []) ∧ (¬ AllS (diffP ls i) i 2 k → K .ret 1000 [(2, .gd true (.bool false))] [])) K (noLoop_ok (by kernel_rfl)) ?_ 0 ⟨by omega, hK1, hK2⟩
    rintro k ⟨h0, h1, h2⟩
    refine (nl41_1 ls i k _ _ _).mpr ?_
    intro x hx; subst hx
    refine ⟨fun h3 => ?_, fun h3 => ?_⟩
    · simp only [decide_eq_true_eq] at h3
      have hk1 : k < ls.length := by omega
      obtain ⟨t1, n1, l1, e1, _⟩ := ty28 (ht _ (getV_mem h0 hk1))
      obtain ⟨t2, n2, l2, e2, _⟩ := ty28 (ht _ (getV_mem hi0 hi1))
      have hs := AllS_step (p := diffP ls i) (d := 2) h3
      have hp : diffP ls i k ↔ ¬ (t1 = t2 ∧ n1 = n2) := by
        unfold diffP; rw [e1, e2]; exact Iff.rfl
      have hw : ∀ z : Int, z = IntKind.i64.wrap (k + 2) → z = k + 2 := fun z hz => by rw [hz, IntKind.wrap_i64]; omega
      have hm : i.toNat - (k + 2).toNat < i.toNat - k.toNat := by omega
      refine ⟨h0, hk1, t1, n1, l1, e1, hi0, hi1, t2, n2, l2, e2, fun x hx => ⟨fun h4 => ⟨h0, hk1, t1, n1, l1, e1, hi0, hi1, t2, n2, l2, e2, fun y hy => ⟨fun h5 => ?_, fun h5 z hz => ?_⟩⟩, fun h4 z hz => ?_⟩⟩
      · exact h2 fun hA => (hp.1 (hs.1 hA).1) ⟨by rw [hx] at h4; simpa using h4, by rw [hy] at h5; simpa using h5⟩
      · have hpi : diffP ls i k := hp.2 fun h => by rw [hy, h.2] at h5; simp at h5
        rw [hw z hz]
        exact ⟨k + 2, rfl, rfl, hm, by omega, fun hA => h1 (hs.2 ⟨hpi, hA⟩), fun hA => h2 fun hB => hA (hs.1 hB).2⟩
      · have hpi : diffP ls i k := hp.2 fun h => by rw [hx, h.1] at h4; simp at h4
        rw [hw z hz]
        exact ⟨k + 2, rfl, rfl, hm, by omega, fun hA => h1 (hs.2 ⟨hpi, hA⟩), fun hA => h2 fun hB => hA (hs.1 hB).2⟩
    · simp only [decide_eq_false_iff_not] at h3
      exact h1 (AllS_stop (by omega) (by omega))
  · exact h.elim
theorem lp41 : LsOk Try.prog 76 1000 [0, 3] [] ent41 (lcode Try.f41 0).2 := by
  intro vs ks K h
  unfold ent41 at h
  split at h
  · rename_i ls i
    obtain ⟨rfl, hev, ht, hK1, hK2⟩ := h
    have hev2 : (ls.length : Int) % 2 = 0 := by rw [← Int.tmod_eq_emod_of_nonneg (by omega)]; exact hev
    refine loop_rule (hints := noHint) (prs := prsOf [(11, [[], [], [0, 1], [2, 0, 1], [3, 2, 0, 1], [], [], [5, 6], [7, 5, 6], [8, 7, 5, 6], [4, 3, 2, 0, 1, 9, 8, 7, 5, 6], [10, 4, 3, 2, 0, 1, 9, 8, 7, 5, 6], [11, 10, 4, 3, 2, 0, 1, 9, 8, 7, 5, 6], [11, 10, 4, 3, 2, 0, 1, 9, 8, 7, 5, 6], [12, 11, 10, 4, 3, 2, 0, 1, 9, 8, 7, 5, 6, 13], [14, 12, 11, 10, 4, 3, 2, 0, 1, 9, 8, 7, 5, 6, 13], [15, 14, 12, 11, 10, 4, 3, 2, 0, 1, 9, 8, 7, 5, 6, 13], [11, 10, 4, 3, 2, 0, 1, 9, 8, 7, 5, 6], [11, 10, 4, 3, 2, 0, 1, 9, 8, 7, 5, 6], [17, 11, 10, 4, 3, 2, 0, 1, 9, 8, 7, 5, 6, 18], [19, 17, 11, 10, 4, 3, 2, 0, 1, 9, 8, 7, 5, 6, 18], [20, 19, 17, 11, 10, 4, 3, 2, 0, 1, 9, 8, 7, 5, 6, 18], [16, 15, 14, 12, 11, 10, 4, 3, 2, 0, 1, 9, 8, 7, 5, 6, 13, 21, 20, 19, 17, 18], [11, 10, 4, 3, 2, 0, 1, 9, 8, 7, 5, 6, 22, 16, 15, 14, 12, 13, 21, 20, 19, 17, 18]])]) (Ls := ls41i) sp41_ok ends41_0 (γ := Int) (fun i => [.list false ls, .int .i64 i]) (fun _ => []) (fun i => ls.length - i.toNat)
      (fun i => (0 ≤ i ∧ i % 2 = 0) ∧ (AllS (pairR ls) ls.length 2 i → K (.exit 0) 1000 [] []) ∧ (¬ AllS (pairR ls) ls.length 2 i → K .ret 1000 [(2, .gd true (.bool false))] [])) K (loopsOf_ok ?_) ?_ 0 ⟨⟨by omega, by omega⟩, hK1, hK2⟩
    · have e : loopsOf 0 (lcode Try.f41 0).2 = [(2, (lin (lcode Try.f41 0) 0).2)] := by kernel_rfl
      show ∀ p ∈ loopsOf 0 (lcode Try.f41 0).2, _
      rw [e]
      intro p hp
      simp only [List.mem_cons, List.not_mem_nil, or_false] at hp
      subst hp
      exact lsAdd_hit lp41i
    rintro i ⟨⟨h0, h0'⟩, h1, h2⟩
    refine (nl41_0 ls i _ _ _).mpr ?_
    intro hl y hy x hx; subst hy hx
    refine ⟨fun h3 => ?_, fun h3 => ?_⟩
    · simp only [decide_eq_true_eq] at h3
      have h3' : i + 1 < ls.length := by omega
      obtain ⟨t, n, l, e, _⟩ := ty28 (ht _ (getV_mem h0 h3))
      obtain ⟨t2, n2, l2, e2, _⟩ := ty28 (ht _ (getV_mem (by omega) h3'))
      have hs := AllS_step (p := pairR ls) (d := 2) h3
      have hp : pairR ls i ↔ (t = 1 ∨ t = 2) ∧ t2 = 5 ∧ n2 ≠ 0 ∧ AllS (diffP ls i) i 2 0 := by
        unfold pairR
        rw [e2]
        have e3 : tagV (getV ls i) = t := by rw [e]; rfl
        constructor
        · rintro ⟨a, b, c, d⟩; exact ⟨by rw [e3] at a; exact a, b, c, d⟩
        · rintro ⟨a, b, c, d⟩; exact ⟨by rw [e3]; exact a, b, c, d⟩
      refine ⟨h0, h3, t, n, l, e, fun x hx => ⟨fun h4 => ⟨h0, h3, t, n, l, e, fun y hy => ⟨fun h5 => ?_, fun h5 => ?_⟩⟩, fun h4 => ?_⟩⟩
      · exact h2 fun hA => by
          rcases (hp.1 (hs.1 hA).1).1 with h | h
          · rw [hx, h] at h4; simp at h4
          · rw [hy, h] at h5; simp at h5
      · have ht12 : t = 1 ∨ t = 2 := .inr (by rw [hy] at h5; simpa using h5)
        intro z hz
        have hz' : z = i + 1 := by rw [hz, IntKind.wrap_i64]; omega
        subst hz'
        refine ⟨by omega, h3', t2, n2, l2, e2, fun u hu => ⟨fun h6 => ?_, fun h6 z hz => ?_⟩⟩
        · exact h2 fun hA => by have := (hp.1 (hs.1 hA).1).2.1; rw [hu, this] at h6; simp at h6
        · have hz' : z = i + 1 := by rw [hz, IntKind.wrap_i64]; omega
          subst hz'
          refine ⟨by omega, h3', t2, n2, l2, e2, fun w hw => ⟨fun h7 => ?_, fun h7 => ?_⟩⟩
          · exact h2 fun hA => (hp.1 (hs.1 hA).1).2.2.1 (by rw [hw] at h7; simpa using h7)
          · refine ⟨rfl, h0, h3, hl, ht, fun hD z hz => ?_, fun hD => h2 fun hA => hD (hp.1 (hs.1 hA).1).2.2.2⟩
            have hz' : z = i + 2 := by rw [hz, IntKind.wrap_i64]; omega
            subst hz'
            have hpi : pairR ls i := hp.2 ⟨ht12, by rw [hu] at h6; simpa using h6, by rw [hw] at h7; simpa using h7, hD⟩
            refine ⟨i + 2, rfl, rfl, ?_, ⟨by omega, by omega⟩, fun hA => h1 (hs.2 ⟨hpi, hA⟩), fun hA => h2 fun hB => hA (hs.1 hB).2⟩
            show ls.length - (i + 2).toNat < ls.length - i.toNat
            omega
      · have ht12 : t = 1 ∨ t = 2 := .inl (by rw [hx] at h4; simpa using h4)
        intro z hz
        have hz' : z = i + 1 := by rw [hz, IntKind.wrap_i64]; omega
        subst hz'
        refine ⟨by omega, h3', t2, n2, l2, e2, fun u hu => ⟨fun h6 => ?_, fun h6 z hz => ?_⟩⟩
        · exact h2 fun hA => by have := (hp.1 (hs.1 hA).1).2.1; rw [hu, this] at h6; simp at h6
        · have hz' : z = i + 1 := by rw [hz, IntKind.wrap_i64]; omega
          subst hz'
          refine ⟨by omega, h3', t2, n2, l2, e2, fun w hw => ⟨fun h7 => ?_, fun h7 => ?_⟩⟩
          · exact h2 fun hA => (hp.1 (hs.1 hA).1).2.2.1 (by rw [hw] at h7; simpa using h7)
          · refine ⟨rfl, h0, h3, hl, ht, fun hD z hz => ?_, fun hD => h2 fun hA => hD (hp.1 (hs.1 hA).1).2.2.2⟩
            have hz' : z = i + 2 := by rw [hz, IntKind.wrap_i64]; omega
            subst hz'
            have hpi : pairR ls i := hp.2 ⟨ht12, by rw [hu] at h6; simpa using h6, by rw [hw] at h7; simpa using h7, hD⟩
            refine ⟨i + 2, rfl, rfl, ?_, ⟨by omega, by omega⟩, fun hA => h1 (hs.2 ⟨hpi, hA⟩), fun hA => h2 fun hB => hA (hs.1 hB).2⟩
            show ls.length - (i + 2).toNat < ls.length - i.toNat
            omega
    · simp only [decide_eq_false_iff_not] at h3
      exact h1 (AllS_stop (by omega) (by omega))
  · exact h.elim
theorem c41 (ls : List V) (ht : ∀ u ∈ ls, T28 u) : CallP Try.prog 41 [.list false ls] (.bool (dec (inK ls))) := by
  refine call_loops sp41_ok Try.func41 Try.ntmps41 (by kernel_rfl) (loopsOf_ok ?_) ((n41 ls _).mpr ?_)
  · have e : loopsOf 0 (bodyOf Try.f41) = [lcode Try.f41 0] := by kernel_rfl
    rw [e]
    intro p hp
    simp only [List.mem_cons, List.not_mem_nil, or_false] at hp
    subst hp
    exact lsAdd_hit lp41
  · intro hl x hx
    subst hx
    refine ⟨⟨rfl, by decide⟩, fun _ y hy z hz => ?_⟩
    subst hy hz
    refine ⟨fun h => ?_, fun h => ?_⟩
    · rw [dec_false]
      intro hK
      rw [hK.1] at h
      cases h
    · have he : (ls.length : Int).tmod 2 = 0 := by simpa using h
      refine ⟨rfl, he, ht, fun hA => ?_, fun hA => ?_⟩
      · rw [dec_true ⟨he, hA⟩]
      · rw [dec_false fun hK => hA hK.2]
theorem b41_ok (args : List V) (k : V → Prop) (h : b41 args k) : ∃ r, CallP Try.prog 41 args r ∧ k r := by
  unfold b41 at h
  split at h
  · exact ⟨_, c41 _ h.1, h.2⟩
  · exact h.elim
theorem sp33_ok : SpOk Try.prog sp33 := spAdd_ok b39_ok (spAdd_ok b40_ok (spAdd_ok b41_ok (spNil_ok)))
theorem lp33 : LsOk Try.prog 90 1001 [3, 5] [1000] ent33 (lcode Try.f33 0).2 := by
  intro vs ks K h
  unfold ent33 at h
  split at h
  · rename_i i t n ls
    obtain ⟨rfl, ht, hK1, hK2⟩ := h
    refine loop_rule (hints := noHint) (prs := prsOf []) (Ls := noLs) sp33_ok ends33_0 (γ := Int) (fun i => [.ptr 1000 0 [], .int .i64 i]) (fun _ => [⟨none, false, .agg [.int .i64 t, .int .i64 n, .list false ls]⟩]) (fun i => ls.length - i.toNat)
      (fun i => 0 ≤ i ∧ (AllS (srcP ls) ls.length 1 i → K (.exit 1) 1001 [(3, .ptr 1000 0 [])] [(1000, ⟨none, false, .agg [.int .i64 t, .int .i64 n, .list false ls]⟩)]) ∧ (¬ AllS (srcP ls) ls.length 1 i → K .ret 1001 [(4, .gd true (.bool false))] [])) K (noLoop_ok (by kernel_rfl)) ?_ 0 ⟨by omega, hK1, hK2⟩
    rintro i ⟨h0, h1, h2⟩
    refine (nl33_0 t n ls i _ _ _).mpr ?_
    intro hl y hy x hx; subst hy hx
    refine ⟨fun h3 => ?_, fun h3 => ?_⟩
    · simp only [decide_eq_true_eq] at h3
      obtain ⟨p, q, l, e, _⟩ := ty28 (ht _ (getV_mem h0 h3))
      have hs := AllS_step (p := srcP ls) (d := 1) h3
      have hp : srcP ls i ↔ (!srcB p q) = false := by
        unfold srcP srcV; rw [e]; exact Iff.rfl
      refine ⟨h0, h3, p, q, l, e, fun x hx => ⟨fun h4 => ?_, fun h4 z hz => ?_⟩⟩
      · exact h2 fun hA => by have := hp.1 (hs.1 hA).1; rw [← hx, h4] at this; cases this
      · have hz' : z = i + 1 := by rw [hz, IntKind.wrap_i64]; omega
        subst hz'
        have hpi : srcP ls i := hp.2 (by rw [← hx, h4])
        refine ⟨i + 1, rfl, rfl, ?_, by omega, fun hA => h1 (hs.2 ⟨hpi, hA⟩), fun hA => h2 fun hB => hA (hs.1 hB).2⟩
        show ls.length - (i + 1).toNat < ls.length - i.toNat
        omega
    · simp only [decide_eq_false_iff_not] at h3
      exact h1 (AllS_stop (by omega) (by omega))
  · exact h.elim
theorem c33 (c t n : Int) (ls : List V) (ht : ∀ u ∈ ls, T28 u) : CallP Try.prog 33 [.int .u8 c, .agg [.int .i64 t, .int .i64 n, .list false ls]] (.bool (letB c t n ls)) := by
  refine call_loops sp33_ok Try.func33 Try.ntmps33 (by kernel_rfl) (loopsOf_ok ?_) ((n33 c t n ls _).mpr ?_)
  · have e : loopsOf 0 (bodyOf Try.f33) = [lcode Try.f33 0] := by kernel_rfl
    rw [e]
    intro p hp
    simp only [List.mem_cons, List.not_mem_nil, or_false] at hp
    subst hp
    exact lsAdd_hit lp33
  · (repeat' (first | exact ht | (refine And.intro ?_ ?_) | (intro x hx; subst hx) | (intro _))) <;> (first | rfl | (simp only [letB, dec_T, dec_F, *, if_true, if_false, Bool.false_eq_true, ↓reduceIte]; done) | (simp only [letB, dec_T, dec_F, *, if_true, if_false, Bool.false_eq_true, ↓reduceIte]; first | rfl | (simp; done)) | (exfalso; simp_all; done) | skip)
theorem sp34_ok : SpOk Try.prog sp34 := spAdd_ok b36_ok (spNil_ok)
theorem lp34i : LsOk Try.prog 77 1006 [1, 3, 4, 5, 12, 13, 14] [1000, 1005] ent34i (lin (lcode Try.f34 0) 0).2 := by
  intro vs ks K h
  unfold ent34i at h
  split at h
  · rename_i i k l2 m j t n ls p q lq
    obtain ⟨rfl, hi0, hi1, hll, ht, hpe, hqe, hK1, hK2⟩ := h
    refine loop_rule (hints := noHint) (prs := prsOf [(14, [[], [0], [], [1, 0, 2], [3, 1, 0, 2], [4, 3, 1, 0, 2], [], [6], [5, 4, 3, 1, 0, 2, 7, 6], [8, 5, 4, 3, 1, 0, 2, 7, 6], [9, 8, 5, 4, 3, 1, 0, 2, 7, 6], [10, 9, 8, 5, 4, 3, 1, 0, 2, 7, 6], [9, 8, 5, 4, 3, 1, 0, 2, 7, 6], [11, 10, 9, 8, 5, 4, 3, 1, 0, 2, 7, 6, 12], [13, 11, 10, 9, 8, 5, 4, 3, 1, 0, 2, 7, 6, 12], [14, 13, 11, 10, 9, 8, 5, 4, 3, 1, 0, 2, 7, 6, 12], [9, 8, 5, 4, 3, 1, 0, 2, 7, 6], [16, 9, 8, 5, 4, 3, 1, 0, 2, 7, 6], [15, 14, 13, 11, 10, 9, 8, 5, 4, 3, 1, 0, 2, 7, 6, 12, 17, 16], [9, 8, 5, 4, 3, 1, 0, 2, 7, 6, 18, 15, 14, 13, 11, 10, 12, 17, 16]])]) (Ls := noLs) sp34_ok ends34_1 (γ := Int) (fun k => [.ptr 1000 0 [], .int .i64 i, .ptr 1005 0 [], .int .i64 k, .list false l2, .int .i64 m, .int .i64 j]) (fun _ => [⟨none, false, .agg [.int .i64 t, .int .i64 n, .list false ls]⟩, ⟨none, false, .agg [.int .i64 p, .int .i64 q, .list false lq]⟩]) (fun k => i.toNat - k.toNat)
      (fun k => 0 ≤ k ∧ (AllS (diffP ls i) i 2 k → K (.exit 3) 1006 [(1, .ptr 1000 0 []), (12, .list false l2), (13, .int .i64 m), (14, .int .i64 j)] [(1000, ⟨none, false, .agg [.int .i64 t, .int .i64 n, .list false ls]⟩)]) ∧ (¬ AllS (diffP ls i) i 2 k → K .ret 1006 [(2, .gd true (.bool false))] [])) K (noLoop_ok (by kernel_rfl)) ?_ 0 ⟨by omega, hK1, hK2⟩
    rintro k ⟨h0, h1, h2⟩
    refine (nl34_1 t n ls i k p q lq l2 m j _ _ _).mpr ?_
    intro x hx; subst hx
    refine ⟨fun h3 => ?_, fun h3 => ?_⟩
    · simp only [decide_eq_true_eq] at h3
      have hk1 : k < ls.length := by omega
      obtain ⟨t1, n1, l1, e1, _⟩ := ty28 (ht _ (getV_mem h0 hk1))
      have hs := AllS_step (p := diffP ls i) (d := 2) h3
      have hp : diffP ls i k ↔ ¬ (t1 = p ∧ n1 = q) := by
        unfold diffP; rw [e1, hpe, hqe]; exact Iff.rfl
      have hlen : i < 4611686018427387904 ∨ True := .inr trivial
      refine ⟨h0, hk1, t1, n1, l1, e1, fun x hx => ⟨fun h4 => ⟨h0, hk1, t1, n1, l1, e1, fun y hy => ⟨fun h5 => ?_, fun h5 z hz => ?_⟩⟩, fun h4 z hz => ?_⟩⟩
      · exact h2 fun hA => (hp.1 (hs.1 hA).1) ⟨by rw [hx] at h4; simpa using h4, by rw [hy] at h5; simpa using h5⟩
      · have hpi : diffP ls i k := hp.2 fun h => by rw [hy, h.2] at h5; simp at h5
        have hz' : z = k + 2 := by rw [hz, IntKind.wrap_i64]; omega
        subst hz'
        refine ⟨k + 2, rfl, rfl, ?_, by omega, fun hA => h1 (hs.2 ⟨hpi, hA⟩), fun hA => h2 fun hB => hA (hs.1 hB).2⟩
        show i.toNat - (k + 2).toNat < i.toNat - k.toNat
        omega
      · have hpi : diffP ls i k := hp.2 fun h => by rw [hx, h.1] at h4; simp at h4
        have hz' : z = k + 2 := by rw [hz, IntKind.wrap_i64]; omega
        subst hz'
        refine ⟨k + 2, rfl, rfl, ?_, by omega, fun hA => h1 (hs.2 ⟨hpi, hA⟩), fun hA => h2 fun hB => hA (hs.1 hB).2⟩
        show i.toNat - (k + 2).toNat < i.toNat - k.toNat
        omega
    · simp only [decide_eq_false_iff_not] at h3
      exact h1 (AllS_stop (by omega) (by omega))
  · exact h.elim
theorem lp34 : LsOk Try.prog 77 1001 [1, 12, 13, 14] [1000] ent34 (lcode Try.f34 0).2 := by
  intro vs ks K h
  unfold ent34 at h
  split at h
  · rename_i ls m i t n lsb
    obtain ⟨rfl, rfl, rfl, ht, hl, hK1, hK2⟩ := h
    refine loop_rule (hints := noHint) (prs := prsOf [(14, [[], [0], [], [1, 0, 2], [3, 1, 0, 2], [4, 3, 1, 0, 2], [], [6], [5, 4, 3, 1, 0, 2, 7, 6], [8, 5, 4, 3, 1, 0, 2, 7, 6], [9, 8, 5, 4, 3, 1, 0, 2, 7, 6], [10, 9, 8, 5, 4, 3, 1, 0, 2, 7, 6], [9, 8, 5, 4, 3, 1, 0, 2, 7, 6], [11, 10, 9, 8, 5, 4, 3, 1, 0, 2, 7, 6, 12], [13, 11, 10, 9, 8, 5, 4, 3, 1, 0, 2, 7, 6, 12], [14, 13, 11, 10, 9, 8, 5, 4, 3, 1, 0, 2, 7, 6, 12], [9, 8, 5, 4, 3, 1, 0, 2, 7, 6], [16, 9, 8, 5, 4, 3, 1, 0, 2, 7, 6], [15, 14, 13, 11, 10, 9, 8, 5, 4, 3, 1, 0, 2, 7, 6, 12, 17, 16], [9, 8, 5, 4, 3, 1, 0, 2, 7, 6, 18, 15, 14, 13, 11, 10, 12, 17, 16]])]) (Ls := ls34i) sp34_ok ends34_0 (γ := Int) (fun i => [.ptr 1000 0 [], .list false ls, .int .i64 ls.length, .int .i64 i]) (fun _ => [⟨none, false, .agg [.int .i64 t, .int .i64 n, .list false ls]⟩]) (fun i => ls.length - i.toNat)
      (fun i => 0 ≤ i ∧ (AllS (okO ls) ls.length 1 i → K (.exit 0) 1001 [] []) ∧ (¬ AllS (okO ls) ls.length 1 i → K .ret 1001 [(2, .gd true (.bool false))] [])) K (loopsOf_ok ?_) ?_ 0 ⟨by omega, hK1, hK2⟩
    · have e : loopsOf 0 (lcode Try.f34 0).2 = [(3, (lin (lcode Try.f34 0) 0).2)] := by kernel_rfl
      show ∀ p ∈ loopsOf 0 (lcode Try.f34 0).2, _
      rw [e]
      intro p hp
      simp only [List.mem_cons, List.not_mem_nil, or_false] at hp
      subst hp
      exact lsAdd_hit lp34i
    rintro i ⟨h0, h1, h2⟩
    refine (nl34_0 t n ls _ i _ _ _).mpr ?_
    intro x hx; subst hx
    refine ⟨fun h3 => ?_, fun h3 => ?_⟩
    · simp only [decide_eq_true_eq] at h3
      obtain ⟨pt, pn, pl, e, _⟩ := ty28 (ht _ (getV_mem h0 h3))
      have hs := AllS_step (p := okO ls) (d := 1) h3
      have hp : okO ls i ↔ plainB pt pn pl = true ∧ (i.tmod 2 = 1 → pt = 5 ∧ pn > 0) ∧ (i.tmod 2 ≠ 1 → (pt = 1 ∨ pt = 2) ∧ AllS (diffP ls i) i 2 0) := by
        unfold okO plainV
        have e1 : tagV (getV ls i) = pt := by rw [e]; rfl
        have e2 : numV (getV ls i) = pn := by rw [e]; rfl
        have e3 : kidsV (getV ls i) = pl := by rw [e]; rfl
        rw [e1, e2, e3]
      have hw : ∀ z : Int, z = IntKind.i64.wrap (i + 1) → z = i + 1 := fun z hz => by rw [hz, IntKind.wrap_i64]; omega
      have hm : ls.length - (i + 1).toNat < ls.length - i.toNat := by omega
      refine ⟨h0, h3, pt, pn, pl, e, fun x hx => ⟨fun h4 => ?_, fun h4 => ?_⟩⟩
      · exact h2 fun hA => by have := (hp.1 (hs.1 hA).1).1; rw [hx, this] at h4; cases h4
      have hpl : plainB pt pn pl = true := by rw [hx] at h4; simpa using h4
      refine ⟨⟨rfl, by decide⟩, fun _ y hy zz hzz => ⟨fun h5 u hu => ⟨fun h6 v hv => ⟨fun h7 z hz => ?_, fun h7 => ?_⟩, fun h6 => ?_⟩, fun h5 => ?_⟩⟩
      · have ho : i.tmod 2 = 1 := by rw [hzz, hy] at h5; simpa using h5
        have hpi : okO ls i := hp.2 ⟨hpl, fun _ => ⟨by rw [hu] at h6; simpa using h6, by rw [hv] at h7; simpa using h7⟩, fun h => absurd ho h⟩
        rw [hw z hz]
        exact ⟨i + 1, rfl, rfl, hm, by omega, fun hA => h1 (hs.2 ⟨hpi, hA⟩), fun hA => h2 fun hB => hA (hs.1 hB).2⟩
      · have hodd : i.tmod 2 = 1 → ¬ (pt = 5 ∧ pn > 0) := fun _ h => by rw [hv] at h7; simp at h7; omega
        refine ⟨⟨rfl, by decide⟩, fun _ a ha b hb => ?_⟩
        subst ha
        refine ⟨fun h8 => ?_, fun h8 c hc => ⟨fun h9 d hd => ⟨fun h10 => ?_, fun h10 => ?_⟩, fun h9 => ⟨fun h => (by cases h), fun _ => ?_⟩⟩⟩
        · exact h2 fun hA => hodd (by rw [hb] at h8; simpa using h8) ((hp.1 (hs.1 hA).1).2.1 (by rw [hb] at h8; simpa using h8))
        · have hne : i.tmod 2 ≠ 1 := by rw [hb] at h8; simpa using h8
          exact h2 fun hA => by
            rcases ((hp.1 (hs.1 hA).1).2.2 hne).1 with h | h
            · rw [hc, h] at h9; simp at h9
            · rw [hd, h] at h10; simp at h10
        · have hne : i.tmod 2 ≠ 1 := by rw [hb] at h8; simpa using h8
          have ht12 : pt = 1 ∨ pt = 2 := .inr (by rw [hd] at h10; simpa using h10)
          refine ⟨rfl, h0, h3, hl, ht, by rw [e]; rfl, by rw [e]; rfl, fun hD z hz => ?_, fun hD => h2 fun hA => hD ((hp.1 (hs.1 hA).1).2.2 hne).2⟩
          have hpi : okO ls i := hp.2 ⟨hpl, fun h => absurd h hne, fun _ => ⟨ht12, hD⟩⟩
          rw [hw z hz]
          exact ⟨i + 1, rfl, rfl, hm, by omega, fun hA => h1 (hs.2 ⟨hpi, hA⟩), fun hA => h2 fun hB => hA (hs.1 hB).2⟩
        · have hne : i.tmod 2 ≠ 1 := by rw [hb] at h8; simpa using h8
          have ht12 : pt = 1 ∨ pt = 2 := .inl (by rw [hc] at h9; simpa using h9)
          refine ⟨rfl, h0, h3, hl, ht, by rw [e]; rfl, by rw [e]; rfl, fun hD z hz => ?_, fun hD => h2 fun hA => hD ((hp.1 (hs.1 hA).1).2.2 hne).2⟩
          have hpi : okO ls i := hp.2 ⟨hpl, fun h => absurd h hne, fun _ => ⟨ht12, hD⟩⟩
          rw [hw z hz]
          exact ⟨i + 1, rfl, rfl, hm, by omega, fun hA => h1 (hs.2 ⟨hpi, hA⟩), fun hA => h2 fun hB => hA (hs.1 hB).2⟩
      · have hodd : i.tmod 2 = 1 → ¬ (pt = 5 ∧ pn > 0) := fun _ h => by rw [hu, h.1] at h6; simp at h6
        refine ⟨⟨rfl, by decide⟩, fun _ a ha b hb => ?_⟩
        subst ha
        refine ⟨fun h8 => ?_, fun h8 c hc => ⟨fun h9 d hd => ⟨fun h10 => ?_, fun h10 => ?_⟩, fun h9 => ⟨fun h => (by cases h), fun _ => ?_⟩⟩⟩
        · exact h2 fun hA => hodd (by rw [hb] at h8; simpa using h8) ((hp.1 (hs.1 hA).1).2.1 (by rw [hb] at h8; simpa using h8))
        · have hne : i.tmod 2 ≠ 1 := by rw [hb] at h8; simpa using h8
          exact h2 fun hA => by
            rcases ((hp.1 (hs.1 hA).1).2.2 hne).1 with h | h
            · rw [hc, h] at h9; simp at h9
            · rw [hd, h] at h10; simp at h10
        · have hne : i.tmod 2 ≠ 1 := by rw [hb] at h8; simpa using h8
          have ht12 : pt = 1 ∨ pt = 2 := .inr (by rw [hd] at h10; simpa using h10)
          refine ⟨rfl, h0, h3, hl, ht, by rw [e]; rfl, by rw [e]; rfl, fun hD z hz => ?_, fun hD => h2 fun hA => hD ((hp.1 (hs.1 hA).1).2.2 hne).2⟩
          have hpi : okO ls i := hp.2 ⟨hpl, fun h => absurd h hne, fun _ => ⟨ht12, hD⟩⟩
          rw [hw z hz]
          exact ⟨i + 1, rfl, rfl, hm, by omega, fun hA => h1 (hs.2 ⟨hpi, hA⟩), fun hA => h2 fun hB => hA (hs.1 hB).2⟩
        · have hne : i.tmod 2 ≠ 1 := by rw [hb] at h8; simpa using h8
          have ht12 : pt = 1 ∨ pt = 2 := .inl (by rw [hc] at h9; simpa using h9)
          refine ⟨rfl, h0, h3, hl, ht, by rw [e]; rfl, by rw [e]; rfl, fun hD z hz => ?_, fun hD => h2 fun hA => hD ((hp.1 (hs.1 hA).1).2.2 hne).2⟩
          have hpi : okO ls i := hp.2 ⟨hpl, fun h => absurd h hne, fun _ => ⟨ht12, hD⟩⟩
          rw [hw z hz]
          exact ⟨i + 1, rfl, rfl, hm, by omega, fun hA => h1 (hs.2 ⟨hpi, hA⟩), fun hA => h2 fun hB => hA (hs.1 hB).2⟩
      · have hodd : i.tmod 2 = 1 → ¬ (pt = 5 ∧ pn > 0) := fun ho _ => by rw [hzz, hy, ho] at h5; simp at h5
        refine ⟨⟨rfl, by decide⟩, fun _ a ha b hb => ?_⟩
        subst ha
        refine ⟨fun h8 => ?_, fun h8 c hc => ⟨fun h9 d hd => ⟨fun h10 => ?_, fun h10 => ?_⟩, fun h9 => ⟨fun h => (by cases h), fun _ => ?_⟩⟩⟩
        · exact h2 fun hA => hodd (by rw [hb] at h8; simpa using h8) ((hp.1 (hs.1 hA).1).2.1 (by rw [hb] at h8; simpa using h8))
        · have hne : i.tmod 2 ≠ 1 := by rw [hb] at h8; simpa using h8
          exact h2 fun hA => by
            rcases ((hp.1 (hs.1 hA).1).2.2 hne).1 with h | h
            · rw [hc, h] at h9; simp at h9
            · rw [hd, h] at h10; simp at h10
        · have hne : i.tmod 2 ≠ 1 := by rw [hb] at h8; simpa using h8
          have ht12 : pt = 1 ∨ pt = 2 := .inr (by rw [hd] at h10; simpa using h10)
          refine ⟨rfl, h0, h3, hl, ht, by rw [e]; rfl, by rw [e]; rfl, fun hD z hz => ?_, fun hD => h2 fun hA => hD ((hp.1 (hs.1 hA).1).2.2 hne).2⟩
          have hpi : okO ls i := hp.2 ⟨hpl, fun h => absurd h hne, fun _ => ⟨ht12, hD⟩⟩
          rw [hw z hz]
          exact ⟨i + 1, rfl, rfl, hm, by omega, fun hA => h1 (hs.2 ⟨hpi, hA⟩), fun hA => h2 fun hB => hA (hs.1 hB).2⟩
        · have hne : i.tmod 2 ≠ 1 := by rw [hb] at h8; simpa using h8
          have ht12 : pt = 1 ∨ pt = 2 := .inl (by rw [hc] at h9; simpa using h9)
          refine ⟨rfl, h0, h3, hl, ht, by rw [e]; rfl, by rw [e]; rfl, fun hD z hz => ?_, fun hD => h2 fun hA => hD ((hp.1 (hs.1 hA).1).2.2 hne).2⟩
          have hpi : okO ls i := hp.2 ⟨hpl, fun h => absurd h hne, fun _ => ⟨ht12, hD⟩⟩
          rw [hw z hz]
          exact ⟨i + 1, rfl, rfl, hm, by omega, fun hA => h1 (hs.2 ⟨hpi, hA⟩), fun hA => h2 fun hB => hA (hs.1 hB).2⟩
    · simp only [decide_eq_false_iff_not] at h3
      exact h1 (AllS_stop (by omega) (by omega))
  · exact h.elim
theorem c34 (t n : Int) (ls : List V) (ht : ∀ u ∈ ls, T28 u) : CallP Try.prog 34 [.agg [.int .i64 t, .int .i64 n, .list false ls]] (.bool (dec (inO ls))) := by
  refine call_loops sp34_ok Try.func34 Try.ntmps34 (by kernel_rfl) (loopsOf_ok ?_) ((n34 t n ls _).mpr ?_)
  · have e : loopsOf 0 (bodyOf Try.f34) = [lcode Try.f34 0] := by kernel_rfl
    rw [e]
    intro p hp
    simp only [List.mem_cons, List.not_mem_nil, or_false] at hp
    subst hp
    exact lsAdd_hit lp34
  · intro hl x hx
    subst hx
    refine ⟨⟨rfl, by decide⟩, fun _ y hy z hz => ?_⟩
    subst hy hz
    refine ⟨fun h => ?_, fun h hl2 y hy => ?_⟩
    · rw [dec_false]
      intro hK
      rw [hK.1] at h
      cases h
    · have he : (ls.length : Int).tmod 2 = 0 := by simpa using h
      refine ⟨rfl, hy, rfl, ht, hl, fun hA => ?_, fun hA => ?_⟩
      · rw [dec_true ⟨he, hA⟩]
      · rw [dec_false fun hK => hA hK.2]
end GoL
