/- A part of the proof: a logic for programs of this kind, proved sound over the model; contracts of functions; plain laws. -/
import Derived.Test.YtilnfaogokjhlaaG1N
import Derived.Test.YtilnfaogokjhlaaNP
set_option linter.all false
open Go Go.Proofs
namespace GoL
set_option linter.unusedVariables false
set_option linter.unusedSimpArgs false
set_option maxRecDepth 8000
attribute [local irreducible] wC
theorem sp48_ok : SpOk Try.prog sp48 := spNil_ok
theorem c48 (m : Int)  : CallP Try.prog 48 [.int .i64 m] (.agg [.int .i64 m, .int .i64 (-1)]) := by
  refine call_plain sp48_ok Try.func48 Try.ntmps48 (by kernel_rfl) ((n48 m _).mpr ?_)
  rfl
theorem b48_ok (args : List V) (k : V → Prop) (h : b48 args k) : ∃ r, CallP Try.prog 48 args r ∧ k r := by
  unfold b48 at h
  split at h
  · exact ⟨_, c48 _ , h⟩
  · exact h.elim
theorem sp45_ok : SpOk Try.prog sp45 := spNil_ok
theorem c45 (n a b : Int)  : CallP Try.prog 45 [.int .i64 n, .int .i64 a, .int .i64 b] (.bool (betw n a b)) := by
  refine call_plain sp45_ok Try.func45 Try.ntmps45 (by kernel_rfl) ((n45 n a b _).mpr ?_)
  (repeat' (first | (refine And.intro ?_ ?_) | (intro x hx; subst hx) | (intro _))) <;> (first | rfl | (simp only [betw, *, if_true, if_false, Bool.false_eq_true, cond_true, cond_false, ↓reduceIte]; done) | (simp only [betw, *, if_true, if_false, Bool.false_eq_true, cond_true, cond_false, ↓reduceIte]; first | rfl | (simp; done)) | skip)
theorem b45_ok (args : List V) (k : V → Prop) (h : b45 args k) : ∃ r, CallP Try.prog 45 args r ∧ k r := by
  unfold b45 at h
  split at h
  · exact ⟨_, c45 _ _ _ , h⟩
  · exact h.elim
theorem sp66_ok : SpOk Try.prog sp66 := spAdd_ok b46_ok (spNil_ok)
theorem c66 (m a x : Int)  : CallP Try.prog 66 [.agg [.int .i64 m, .int .i64 a], .int .i64 x] (.agg [.int .i64 (meet m a (notI x)).1, .int .i64 (meet m a (notI x)).2]) := by
  refine call_plain sp66_ok Try.func66 Try.ntmps66 (by kernel_rfl) ((n66 m a x _).mpr ?_)
  intro x hx; subst hx; rfl
theorem b66_ok (args : List V) (k : V → Prop) (h : b66 args k) : ∃ r, CallP Try.prog 66 args r ∧ k r := by
  unfold b66 at h
  split at h
  · exact ⟨_, c66 _ _ _ , h⟩
  · exact h.elim
theorem sp65_ok : SpOk Try.prog sp65 := spAdd_ok b75_ok spNil_ok
theorem c65 (f : Nat → Int × Int) (fr : Bool) (ys ts : List V) (rm : Int) (tg n : Int) (ls : List V) (m a : Int) (hs : SOk (arrF 16 f) ys ts) : CallP Try.prog 65 [.agg [.agg (arrF 16 f), .bool fr, .list false ys, .int .i64 rm, .list false ts], .agg [.int .i64 tg, .int .i64 n, .list false ls], .agg [.int .i64 m, .int .i64 a]] (.agg [.agg (arrF 16 (refF f tg n m a)), .bool fr, .list false (refZ fr ys tg n m a), .int .i64 rm, .list false ts]) := by
  refine call_plain sp65_ok Try.func65 Try.ntmps65 (by kernel_rfl) ((n65 f fr ys ts rm tg n ls m a _).mpr ?_)
  intro x0 e0; subst e0
  refine ⟨fun h => ?_, fun h => ?_⟩
  · refine ⟨hs, f, rfl, fun g hg zs hz ok hok => ?_⟩
    subst hg hz
    simp only [refF, refZ, h, if_true]
  · intro x1 e1; subst e1
    refine ⟨fun h4 => ?_, fun h4 => ?_⟩
    · refine ⟨hs, f, rfl, fun g hg zs hz ok hok => ?_⟩
      subst hg hz
      simp only [refF, refZ, h, h4, if_true, if_false, Bool.false_eq_true]
    · simp only [refF, refZ, h, h4, if_true, if_false, Bool.false_eq_true]
theorem b65_ok (args : List V) (k : V → Prop) (h : b65 args k) : ∃ r, CallP Try.prog 65 args r ∧ k r := by
  unfold b65 at h
  split at h
  · obtain ⟨hs, f, rfl, hk⟩ := h
    exact ⟨_, c65 _ _ _ _ _ _ _ _ _ _ hs, hk _ rfl _ rfl⟩
  · exact h.elim
theorem drop_get {ts : List V} {i : Int} (h0 : 0 ≤ i) (h : i < ts.length) : ts.drop i.toNat = getV ts i :: ts.drop (i + 1).toNat := drop_dec h0 h
theorem sp80_ok : SpOk Try.prog sp80 := spNil_ok
theorem lp80 : LsOk Try.prog 19 1000 [0, 1, 7, 8] [] ent80 (lcode Try.f80 0).2 := by
  intro vs ks K h
  unfold ent80 at h
  split at h
  · rename_i ts n l i
    obtain ⟨rfl, hn, hb, rfl, hK1, hK2⟩ := h
    refine loop_rule (hints := noHint) (prs := prsOf []) (Ls := noLs) sp80_ok ends80_0 (γ := Int) (fun i => [.list false ts, .int .i64 n, .int .i64 ts.length, .int .i64 i]) (fun _ => []) (fun i => ts.length - i.toNat)
      (fun i => 0 ≤ i ∧ i ≤ ts.length ∧ idxI (ts.drop i.toNat) n i = idxI ts n 0) K (noLoop_ok (by kernel_rfl)) ?_ 0 ⟨by omega, by omega, rfl⟩
    rintro i ⟨h0, h1, h2⟩
    refine (nl80_0 ts n _ i _ _ _).mpr ?_
    intro x hx; subst hx
    refine ⟨fun h5 => ?_, fun h5 => ?_⟩
    · simp only [decide_eq_true_eq] at h5
      rw [drop_get h0 h5] at h2
      obtain ⟨m, hm⟩ := hn (getV ts i) (by
        have hlt : i.toNat < ts.length := by omega
        have : getV ts i = ts[i.toNat] := by simp [getV, List.getD, hlt]
        rw [this]; exact List.getElem_mem hlt)
      refine ⟨h0, h5, m, hm, fun y hy => ?_⟩
      subst hy
      rw [hm] at h2
      simp only [idxI] at h2
      refine ⟨fun h6 => ?_, fun h6 z hz => ?_⟩
      · rw [if_pos h6] at h2
        exact hK2 i h2.symm (by omega)
      · rw [if_neg (by rw [h6]; decide)] at h2
        have hz' : z = i + 1 := by rw [hz, IntKind.wrap_i64]; omega
        subst hz'
        exact ⟨i + 1, rfl, rfl, by show ts.length - (i + 1).toNat < ts.length - i.toNat; omega, by omega, by omega, h2⟩
    · simp only [decide_eq_false_iff_not] at h5
      have hd : ts.drop i.toNat = [] := List.drop_eq_nil_of_le (by omega)
      rw [hd] at h2
      exact hK1 h2.symm
  · exact h.elim
theorem c80 (ts : List V) (n : Int) (hn : NLs ts) (hb : ts.length ≤ 100000) : CallP Try.prog 80 [.list false ts, .int .i64 n] (.int .i64 (idxI ts n 0)) := by
  refine call_loops sp80_ok Try.func80 Try.ntmps80 (by kernel_rfl) (loopsOf_ok fun p hp => ?_) ((n80 ts n _).mpr fun _ x hx => ⟨hx, hn, hb, rfl, fun h => by rw [h], fun j h _ => by rw [h]⟩)
  have e : loopsOf 0 (bodyOf Try.f80) = [lcode Try.f80 0] := by kernel_rfl
  rw [e] at hp
  simp only [List.mem_cons, List.not_mem_nil, or_false] at hp
  subst hp
  exact lsAdd_hit lp80
theorem b80_ok (args : List V) (k : V → Prop) (h : b80 args k) : ∃ r, CallP Try.prog 80 args r ∧ k r := by
  unfold b80 at h
  split at h
  · exact ⟨_, c80 _ _ h.1 h.2.1, h.2.2⟩
  · exact h.elim
theorem sp74_ok : SpOk Try.prog sp74 := spAdd_ok b80_ok spNil_ok
theorem c74 (ts : List V) (n : Int) (hn : NLs ts) (hb : ts.length ≤ 100000) : CallP Try.prog 74 [.list false ts, .int .i64 n] (.bool (memI ts n)) := by
  refine call_plain sp74_ok Try.func74 Try.ntmps74 (by kernel_rfl) ((n74 ts n _).mpr ⟨hn, hb, fun x hx => by subst hx; rfl⟩)
theorem b74_ok (args : List V) (k : V → Prop) (h : b74 args k) : ∃ r, CallP Try.prog 74 args r ∧ k r := by
  unfold b74 at h
  split at h
  · exact ⟨_, c74 _ _ h.1 h.2.1, h.2.2⟩
  · exact h.elim
theorem sp61_ok : SpOk Try.prog sp61 := spNil_ok
theorem c61 (ys : List V) (hy : KLs ys) (hb : ys.length ≤ 1000) : CallP Try.prog 61 [.list false ys] (.list false ys) := by
  refine call_plain sp61_ok Try.func61 Try.ntmps61 (by kernel_rfl) ((n61 ys _).mpr ⟨trivial, fun b h => ⟨fun e => ?_, fun _ => ⟨⟨rfl, rfl, ⟨rfl, trivial⟩, kls_sz hy, rfl, rfl, 16, rfl, by omega, by omega⟩, fun _ => ⟨by simp, rfl⟩⟩⟩⟩)
  have : ys = [] := Classical.byContradiction fun hn => by rw [h hn] at e; cases e
  rw [this]
theorem b61_ok (args : List V) (k : V → Prop) (h : b61 args k) : ∃ r, CallP Try.prog 61 args r ∧ k r := by
  unfold b61 at h
  split at h
  · exact ⟨_, c61 _ h.1 h.2.1, h.2.2 _ rfl⟩
  · exact h.elim
theorem c61H (ys : List V) (hy : KLs ys) (hb : ys.length ≤ 1000) (hn : ys ≠ []) : CallH Try.prog 61 [.list false ys] (lkB []) (.sl 1003 ys.length) (lkB [(1003, ⟨some 24, false, .agg ys⟩)]) := by
  refine callH_go (η := []) (ids := [1003]) (ks := [⟨some 24, false, .agg ys⟩]) (hint := none) (Ls := noLs) (hints := noHint) (prs := prsOf []) (N := 8) sp61_ok Try.func61 Try.ntmps61 (by kernel_rfl) (noLoop_ok (by kernel_rfl)) ?_
  refine (n61h ys _ _).mpr ⟨trivial, fun b h => ⟨fun e => ?_, fun _ => ⟨⟨rfl, rfl, ⟨rfl, trivial⟩, kls_sz hy, rfl, rfl, 16, rfl, by omega, by omega⟩, fun _ => ?_⟩⟩⟩
  · rw [h hn] at e; cases e
  · simp
theorem h61_ok : HOk Try.prog 61 h61 := by
  intro hvc rest H1 id k h
  unfold h61 at h
  split at h
  · obtain ⟨h1, h2, h3, hk⟩ := h
    exact ⟨_, _, hsem_new (m := 1003) rfl (fun j hj => by simpa [V.idsB] using hj) (c61H _ h1 h2 h3), hk _ rfl⟩
  · exact h.elim
theorem sp68_ok : SpOk Try.prog sp68 := spNil_ok
theorem c68 (ts : List V) (hy : NLs ts) (hb : ts.length ≤ 1000) : CallP Try.prog 68 [.list false ts] (.list false ts) := by
  refine call_plain sp68_ok Try.func68 Try.ntmps68 (by kernel_rfl) ((n68 ts _).mpr ⟨trivial, fun b h => ⟨fun e => ?_, fun _ => ⟨⟨rfl, rfl, ⟨rfl, trivial⟩, nls_sz hy, rfl, rfl, 8, rfl, by omega, by omega⟩, fun _ => ⟨by simp, rfl⟩⟩⟩⟩)
  have : ts = [] := Classical.byContradiction fun hn => by rw [h hn] at e; cases e
  rw [this]
theorem b68_ok (args : List V) (k : V → Prop) (h : b68 args k) : ∃ r, CallP Try.prog 68 args r ∧ k r := by
  unfold b68 at h
  split at h
  · exact ⟨_, c68 _ h.1 h.2.1, h.2.2 _ rfl⟩
  · exact h.elim
end GoL
