/- A part of the proof: a logic for programs of this kind, proved sound over the model; contracts of functions; plain laws. -/
import Derived.Test.YtjnagpmhkpkngaaBN
import Derived.Test.YtjnagpmhkpkngaaAP
set_option linter.all false
open Go Go.Proofs
namespace GoL
set_option linter.unusedVariables false
set_option linter.unusedSimpArgs false
set_option maxRecDepth 8000
theorem b34_ok (args : List V) (k : V → Prop) (h : b34 args k) : ∃ r, CallP Try.prog 34 args r ∧ k r := by
  unfold b34 at h
  split at h
  · exact ⟨_, c34 _ _ _ h.1, h.2⟩
  · exact h.elim
theorem b35_ok (args : List V) (k : V → Prop) (h : b35 args k) : ∃ r, CallP Try.prog 35 args r ∧ k r := by
  unfold b35 at h
  split at h
  · exact ⟨_, c35 _ _ _ h.1, h.2⟩
  · exact h.elim
theorem b32g_ok (args : List V) (k : V → Prop) (h : b32g args k) : ∃ r, CallP Try.prog 32 args r ∧ k r := by
  unfold b32g at h
  split at h
  · exact ⟨_, c32 _ _ _ h.1, h.2⟩
  · exact h.elim
theorem b33_ok (args : List V) (k : V → Prop) (h : b33 args k) : ∃ r, CallP Try.prog 33 args r ∧ k r := by
  unfold b33 at h
  split at h
  · exact ⟨_, c33 _ _ _ _ h.1, h.2⟩
  · exact h.elim
theorem sp30g_ok : SpOk Try.prog sp30g := spAdd_ok b34_ok (spAdd_ok b35_ok (spAdd_ok b36_ok (spAdd_ok b37_ok (spAdd_ok b38_ok spNil_ok))))
theorem c30g (c t n : Int) (ls : List V) (ht : ∀ u ∈ ls, T28 u) : CallP Try.prog 30 [.int .u8 c, .agg [.int .i64 t, .int .i64 n, .list false ls]] (.bool (letO c t n ls)) := by
  refine call_plain sp30g_ok Try.func30 Try.ntmps30 (by kernel_rfl) ((n30g c t n ls _).mpr ?_)
  (repeat' (first | exact ht | (refine And.intro ?_ ?_) | (intro x hx; subst hx) | (intro _))) <;> (first | rfl | (simp only [letO, bigO, fit1, dec_T, dec_F, *, if_true, if_false, Bool.false_eq_true, ↓reduceIte]; done) | (simp only [letO, bigO, fit1, dec_T, dec_F, *, if_true, if_false, Bool.false_eq_true, ↓reduceIte]; first | rfl | (simp; done)) | (exfalso; simp_all; done) | skip)
theorem b30g_ok (args : List V) (k : V → Prop) (h : b30g args k) : ∃ r, CallP Try.prog 30 args r ∧ k r := by
  unfold b30g at h
  split at h
  · exact ⟨_, c30g _ _ _ _ h.1, h.2⟩
  · exact h.elim
theorem sp19g_ok : SpOk Try.prog sp19g := spAdd_ok b8_ok (spAdd_ok b30g_ok spNil_ok)
theorem sp24_ok : SpOk Try.prog sp24 := spAdd_ok b9_ok (spAdd_ok b32g_ok (spAdd_ok b33_ok spNil_ok))
theorem lp19g : LsOk Try.prog 40 1000 [3, 26, 27, 28] [] ent19g (lcode Try.f19 0).2 := by
  intro vs ks K h
  unfold ent19g at h
  split at h
  · rename_i sg xs n i
    obtain ⟨rfl, hb, hl, ht, rfl, hK1, hK2⟩ := h
    refine loop_rule (hints := noHint) (prs := prsOf [(7, [[], [], [0, 1], [], [2, 0, 1, 3], [4, 2, 0, 1, 3]])]) (Ls := noLs) sp19g_ok ends19g (γ := Int) (fun i => [.str sg, .list false xs, .int .i64 xs.length, .int .i64 i]) (fun _ => []) (fun i => xs.length - i.toNat)
      (fun i => 0 ≤ i ∧ (AllS (okG sg xs) xs.length 1 i → K (.exit 0) 1000 [] []) ∧ (¬ AllS (okG sg xs) xs.length 1 i → K .ret 1000 [(2, .gd true (.bool false))] [])) K (noLoop_ok (by kernel_rfl)) ?_ 0 ⟨by omega, hK1, hK2⟩
    rintro i ⟨h0, h1, h2⟩
    refine (nl19g sg xs _ i _ _ _).mpr ?_
    intro x hx; subst hx
    refine ⟨fun h3 => ?_, fun h3 => ?_⟩
    · simp only [decide_eq_true_eq] at h3
      obtain ⟨t, n, l, e, htl⟩ := ty28 (ht _ (getV_mem h0 h3))
      have hs := AllS_step (p := okG sg xs) (d := 1) h3
      have hp : okG sg xs i ↔ letO ((sg.getD i.toNat 0).toNat : Int) t n l = true := by
        unfold okG; rw [e]; exact Iff.rfl
      refine ⟨h0, h3, t, n, l, e, h0, by omega, fun x hx => ?_⟩
      subst hx
      refine ⟨htl, fun x hx => ⟨fun h4 => ?_, fun h4 z hz => ?_⟩⟩
      · exact h2 fun hA => by have := hp.1 (hs.1 hA).1; rw [hx, this] at h4; cases h4
      · have hz' : z = i + 1 := by rw [hz, IntKind.wrap_i64]; omega
        subst hz'
        have hpi : okG sg xs i := hp.2 (by rw [hx] at h4; simpa using h4)
        refine ⟨i + 1, rfl, rfl, ?_, by omega, fun hA => h1 (hs.2 ⟨hpi, hA⟩), fun hA => h2 fun hB => hA (hs.1 hB).2⟩
        show xs.length - (i + 1).toNat < xs.length - i.toNat
        omega
    · simp only [decide_eq_false_iff_not] at h3
      exact h1 (AllS_stop (by omega) (by omega))
  · exact h.elim
theorem c19g (op : Int) (xs : List V) (ht : ∀ u ∈ xs, T28 u) : CallP Try.prog 19 [.agg [.int .i64 op, .list false xs]] (.bool (fitsG op xs)) := by
  refine call_loops sp19g_ok Try.func19 Try.ntmps19 (by kernel_rfl) (loopsOf_ok ?_) ((n19g op xs _).mpr ?_)
  · have e : loopsOf 0 (bodyOf Try.f19) = [lcode Try.f19 0] := by kernel_rfl
    rw [e]
    intro p hp
    simp only [List.mem_cons, List.not_mem_nil, or_false] at hp
    subst hp
    exact lsAdd_hit lp19g
  · intro x h1; subst h1
    refine ⟨fun h1 => by simp only [fitsG, h1, if_true], fun h1 x h2 => ?_⟩
    subst h2
    refine ⟨fun h2 => by simp only [fitsG, h1, h2, if_true, if_false, Bool.false_eq_true], fun h2 hl x h3 hl2 y h4 z h5 => ?_⟩
    subst h3 h4 h5
    refine ⟨fun h3 => by simp only [fitsG, h1, h2, h3, if_true, if_false, Bool.false_eq_true], fun h3 hl x h4 => ?_⟩
    have h6 : xs.length = (sigS op).length := by
      have h7 : (xs.length : Int) = ((sigS op).length : Int) := by simpa using h3
      omega
    refine ⟨h4, hl, h6, ht, rfl, fun h => ?_, fun h => ?_⟩
    · simp only [fitsG, h1, h2, h3, dec_true h, if_true, if_false, Bool.false_eq_true]
    · simp only [fitsG, h1, h2, h3, dec_false h, if_true, if_false, Bool.false_eq_true]
theorem lp24 : LsOk Try.prog 49 1001 [1, 3, 4] [1000] ent24 (lcode Try.f24 0).2 := by
  intro vs ks K h
  unfold ent24 at h
  split at h
  · rename_i sg i op xs
    obtain ⟨hl, ht, rfl, hK1, hK2⟩ := h
    refine loop_rule (hints := noHint) (prs := prsOf [(7, [[], [0], [], [1, 0, 2], [3, 1, 0, 2], [4, 3, 1, 0, 2], [5, 4, 3, 1, 0, 2], [6, 5, 4, 3, 1, 0, 2], [7, 6, 5, 4, 3, 1, 0, 2], [7, 6, 5, 4, 3, 1, 0, 2], [8, 7, 6, 5, 4, 3, 1, 0, 2, 9], [7, 6, 5, 4, 3, 1, 0, 2], [11, 7, 6, 5, 4, 3, 1, 0, 2], [7, 6, 5, 4, 3, 1, 0, 2], [12, 11, 7, 6, 5, 4, 3, 1, 0, 2, 13], [14, 12, 11, 7, 6, 5, 4, 3, 1, 0, 2, 13], [10, 8, 7, 6, 5, 4, 3, 1, 0, 2, 9, 15, 14, 12, 11, 13], [16, 10, 8, 7, 6, 5, 4, 3, 1, 0, 2, 9, 15, 14, 12, 11, 13], [7, 6, 5, 4, 3, 1, 0, 2, 17, 16, 10, 8, 9, 15, 14, 12, 11, 13]])]) (Ls := noLs) sp24_ok ends24_0 (γ := Int) (fun i => [.ptr 1000 0 [], .str sg, .int .i64 i]) (fun _ => [⟨none, false, .agg [.int .i64 op, .list false xs]⟩]) (fun i => sg.length - i.toNat)
      (fun i => 0 ≤ i ∧ (AllS (okR sg xs) sg.length 1 i → K (.exit 0) 1001 [] []) ∧ (¬ AllS (okR sg xs) sg.length 1 i → K .ret 1001 [(2, .gd true (.bool false))] [])) K (noLoop_ok (by kernel_rfl)) ?_ 0 ⟨by omega, hK1, hK2⟩
    rintro i ⟨h0, h1, h2⟩
    refine (nl24_0 op sg xs i _ _ _).mpr ?_
    intro hb y hy x hx; subst hy hx
    refine ⟨fun h3 => ?_, fun h3 => ?_⟩
    · simp only [decide_eq_true_eq] at h3
      have h3' : i < xs.length := by omega
      obtain ⟨t, n, l, e, htl⟩ := ty28 (ht _ (getV_mem h0 h3'))
      have hs := AllS_step (p := okR sg xs) (d := 1) h3
      have hp : okR sg xs i ↔ ck32 t n l = true ∧ letB ((sg.getD i.toNat 0).toNat : Int) t n l = true := by
        unfold okR; rw [e]; exact Iff.rfl
      refine ⟨h0, h3', t, n, l, e, htl, fun x hx => ⟨fun h4 => ?_, fun h4 => ⟨h0, h3, fun w hw => ?_⟩⟩⟩
      · exact h2 fun hA => by have := (hp.1 (hs.1 hA).1).1; rw [hx, this] at h4; cases h4
      subst hw
      refine ⟨h0, h3', t, n, l, e, htl, fun y hy => ⟨fun h5 => ?_, fun h5 z hz => ?_⟩⟩
      · exact h2 fun hA => by have := (hp.1 (hs.1 hA).1).2; rw [hy, this] at h5; cases h5
      · have hz' : z = i + 1 := by rw [hz, IntKind.wrap_i64]; omega
        subst hz'
        have hpi : okR sg xs i := hp.2 ⟨by rw [hx] at h4; simpa using h4, by rw [hy] at h5; simpa using h5⟩
        refine ⟨i + 1, rfl, rfl, ?_, by omega, fun hA => h1 (hs.2 ⟨hpi, hA⟩), fun hA => h2 fun hB => hA (hs.1 hB).2⟩
        show sg.length - (i + 1).toNat < sg.length - i.toNat
        omega
    · simp only [decide_eq_false_iff_not] at h3
      exact h1 (AllS_stop (by omega) (by omega))
  · exact h.elim
theorem c24 (op : Int) (xs : List V) (ht : ∀ u ∈ xs, T28 u) : CallP Try.prog 24 [.agg [.int .i64 op, .list false xs]] (.bool (fitsR op xs)) := by
  refine call_loops sp24_ok Try.func24 Try.ntmps24 (by kernel_rfl) (loopsOf_ok ?_) ((n24 op xs _).mpr ?_)
  · have e : loopsOf 0 (bodyOf Try.f24) = [lcode Try.f24 0] := by kernel_rfl
    rw [e]
    intro p hp
    simp only [List.mem_cons, List.not_mem_nil, or_false] at hp
    subst hp
    exact lsAdd_hit lp24
  · intro x h1; subst h1
    refine ⟨fun h1 => by simp only [fitsR, h1, if_true], fun h1 x h2 => ?_⟩
    subst h2
    refine ⟨fun h2 => by simp only [fitsR, h1, h2, if_true, if_false, Bool.false_eq_true], fun h2 hl x h3 hl2 y h4 z h5 => ?_⟩
    subst h3 h4 h5
    refine ⟨fun h3 => by simp only [fitsR, h1, h2, h3, if_true, if_false, Bool.false_eq_true], fun h3 => ?_⟩
    have h6 : xs.length = (sig9 op).length := by
      have h7 : (xs.length : Int) = ((sig9 op).length : Int) := by simpa using h3
      omega
    refine ⟨h6, ht, rfl, fun h => ?_, fun h => ?_⟩
    · simp only [fitsR, h1, h2, h3, dec_true h, if_true, if_false, Bool.false_eq_true]
    · simp only [fitsR, h1, h2, h3, dec_false h, if_true, if_false, Bool.false_eq_true]
end GoL
