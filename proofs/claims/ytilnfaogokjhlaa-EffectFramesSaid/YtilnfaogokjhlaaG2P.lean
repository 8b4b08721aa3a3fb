/- A part of the proof: a logic for programs of this kind, proved sound over the model; contracts of functions; plain laws. -/
import Derived.Test.YtilnfaogokjhlaaG2N
import Derived.Test.YtilnfaogokjhlaaR6P
set_option linter.all false
open Go Go.Proofs
namespace GoL
set_option linter.unusedVariables false
set_option linter.unusedSimpArgs false
set_option maxRecDepth 8000
attribute [local irreducible] wC
theorem lkV_ren (l : LK) (c e : Nat) : (lkV l 1).ren (ro2 c e) = lkV l e := rfl
theorem lkV_ids (l : LK) (e : Nat) : (lkV l e).idsB = [e] := rfl
theorem hbL_ok {f : Nat} {spec : List V → LK → (V → LK → Prop) → Prop} (h : ∀ rest l k, spec rest l k → ∃ r l', LC f rest l r l' ∧ r.idsB = [] ∧ k r l') : HOk Try.prog f (hbL spec) := by
  intro hvc rest H1 id k hk
  unfold hbL at hk
  split at hk
  · rename_i c
    split at hk
    · rename_i t hc
      split at hk
      · rename_i a1 a2 a3 a4 e n a6 a7
        split at hk
        · rename_i E rows he
          rw [chkP_iff] at hk
          obtain ⟨hE, l, ht, hr, hs⟩ := hk
          have hE := Nat.eq_of_beq_eq_true hE
          subst hE hr
          obtain ⟨r, l', h1, h2, h3⟩ := h _ _ _ hs
          exact ⟨_, _, hsem_pe hc he (by rw [lkV_ren]; exact ht.symm) (lkV_ren l' c e) (lkV_ids l 1) (lkV_ids l' 1) h2 h1, h3⟩
        · exact hk.elim
      · exact hk.elim
    · exact hk.elim
  · exact hk.elim
/-- the same, and nothing is frozen -/
def LR (f : Nat) (rest : List V) (l : LK) (r : V) : Prop := ∀ z z' : Bool, CallH Try.prog f (.ptr 0 0 [] :: rest) (lkB [(0, ⟨none, z, lkV l 1⟩), (1, ⟨some 57, z', .agg l.es⟩)]) r (lkB [(0, ⟨none, z, lkV l 1⟩), (1, ⟨some 57, z', .agg l.es⟩)])
theorem hbR_ok {f : Nat} {spec : List V → LK → (V → Prop) → Prop} (h : ∀ rest l k, spec rest l k → ∃ r, LR f rest l r ∧ r.idsB = [] ∧ k r) : HOk Try.prog f (hbR spec) := by
  intro hvc rest H1 id k hk
  unfold hbR at hk
  split at hk
  · rename_i c
    split at hk
    · rename_i z t hc
      split at hk
      · rename_i a1 a2 a3 a4 e n a6 a7
        split at hk
        · rename_i E z' rows he
          rw [chkP_iff] at hk
          obtain ⟨hE, l, ht, hr, hs⟩ := hk
          have hE := Nat.eq_of_beq_eq_true hE
          subst hE hr
          obtain ⟨r, h1, h2, h3⟩ := h _ _ _ hs
          exact ⟨_, _, hsem_pe_ro hc he (by rw [lkV_ren]; exact ht.symm) (lkV_ids l 1) h2 (h1 z z'), h3⟩
        · exact hk.elim
      · exact hk.elim
    · exact hk.elim
  · exact hk.elim
theorem sp44_ok : SpOk Try.prog sp44 := spNil_ok
theorem c44 (ok : Bool) (l : LK)  : LC 44 [.bool ok] l (.bool (mustL l ok).rt) (mustL l ok) := by
  refine callQ_go (own := none) (pur := []) (n1 := 1000) (η := [(0, ⟨none, false, lkV l 1⟩), (1, ⟨some 57, false, .agg l.es⟩)]) (η1 := [(0, ⟨none, false, lkV l 1⟩), (1, ⟨some 57, false, .agg l.es⟩)]) (ids := [0, 1]) (ks := [⟨none, false, lkV (mustL l ok) 1⟩, ⟨some 57, false, .agg (mustL l ok).es⟩]) (hint := none) (Ls := noLs) (hints := noHint) (prs := prsOf []) (N := 19) sp44_ok Try.func44 Try.ntmps44 (by kernel_rfl) (noLoop_ok (by kernel_rfl)) rfl ((n44 ok l _ _).mpr ?_)
  refine ⟨fun h => ?_, fun h => ?_⟩
  · have e : mustL l ok = { l with rt := ok } := by unfold mustL; rw [if_pos h]
    rw [e]; exact ⟨rfl, rfl⟩
  · have e : mustL l ok = { l with rt := false } := by unfold mustL; rw [if_neg (by rw [h]; decide)]
    rw [e]; exact ⟨rfl, rfl⟩
theorem h44_ok : HOk Try.prog 44 (hbL s44) := hbL_ok fun rest l k h => by
  unfold s44 at h
  split at h
  · exact ⟨_, _, c44 _ _, rfl, h _ rfl⟩
  · exact h.elim
theorem c44y (ok : Bool) (l : LK) : CallH Try.prog 44 [.ptr 0 0 [], .bool ok] (lkB [(0, ⟨none, false, lkY l 1 2⟩), (1, ⟨some 57, false, .agg l.es⟩), (2, ⟨some 24, false, .agg l.o.ys⟩)]) (.bool (mustL l ok).rt) (lkB [(0, ⟨none, false, lkY (mustL l ok) 1 2⟩), (1, ⟨some 57, false, .agg (mustL l ok).es⟩), (2, ⟨some 24, false, .agg (mustL l ok).o.ys⟩)]) := by
  refine callQ_go (own := none) (pur := []) (n1 := 1000) (η := [(0, ⟨none, false, lkY l 1 2⟩), (1, ⟨some 57, false, .agg l.es⟩), (2, ⟨some 24, false, .agg l.o.ys⟩)]) (η1 := [(0, ⟨none, false, lkY l 1 2⟩), (1, ⟨some 57, false, .agg l.es⟩), (2, ⟨some 24, false, .agg l.o.ys⟩)]) (ids := [0, 1, 2]) (ks := [⟨none, false, lkY (mustL l ok) 1 2⟩, ⟨some 57, false, .agg (mustL l ok).es⟩, ⟨some 24, false, .agg (mustL l ok).o.ys⟩]) (hint := none) (Ls := noLs) (hints := noHint) (prs := prsOf []) (N := 19) sp44_ok Try.func44 Try.ntmps44 (by kernel_rfl) (noLoop_ok (by kernel_rfl)) rfl ((n44y ok l _ _).mpr ?_)
  refine ⟨fun h => ?_, fun h => ?_⟩
  · have e : mustL l ok = { l with rt := ok } := by unfold mustL; rw [if_pos h]
    rw [e]; exact ⟨rfl, rfl⟩
  · have e : mustL l ok = { l with rt := false } := by unfold mustL; rw [if_neg (by rw [h]; decide)]
    rw [e]; exact ⟨rfl, rfl⟩
theorem lkY_ren (l : LK) (c e y : Nat) : (lkY l 1 2).ren (ro3 c e y) = lkY l e y := rfl
theorem lkY_ids (l : LK) (e y : Nat) : (lkY l e y).idsB = [y, e] := rfl
theorem h44L_ok : HOk Try.prog 44 (hbL s44) := h44_ok
theorem s44_inv {rest : List V} {l : LK} {k : V → LK → Prop} (h : s44 rest l k) : ∃ ok, rest = [.bool ok] ∧ ∀ l', l' = mustL l ok → k (.bool l'.rt) l' := by
  unfold s44 at h
  split at h
  · exact ⟨_, rfl, h⟩
  · exact h.elim
theorem h44M_ok : HOk Try.prog 44 hbM := by
  intro hvc rest H1 id k hk
  unfold hbM at hk
  split at hk
  · rename_i c
    split at hk
    · rename_i t hc
      split at hk
      · rename_i a1 a2 a3 x0 x1 ys x3 x4 e n a6 a7
        split at hk
        · rename_i y m
          split at hk
          · rename_i E rows he
            split at hk
            · rename_i F yr hy
              rw [chkP_iff, chkP_iff] at hk
              obtain ⟨hE, hF, hk⟩ := hk
              have hE := Nat.eq_of_beq_eq_true hE
              have hF := Nat.eq_of_beq_eq_true hF
              subst hE hF
              split at hk
              · rename_i hey
                have hey : e ≠ y := fun h => by rw [h, Nat.beq_refl] at hey; cases hey
                obtain ⟨l, ht, hr, hyr, hs⟩ := hk
                subst hr hyr
                obtain ⟨ok, rfl, hs⟩ := s44_inv hs
                · refine ⟨_, _, hsem_pey (t := lkY l 1 2) (t' := lkY (mustL l ok) 1 2) hey hc he hy (by rw [lkY_ren]; exact ht.symm) (lkY_ren _ c e y) ?_ ?_ (fun j hj => ?_) (fun j hj => ?_) rfl (c44y ok l), hs _ rfl⟩
                  · rw [ht, lkY_ids]; simp
                  · rw [ht, lkY_ids]; simp
                  · rw [lkY_ids] at hj; simp at hj; omega
                  · rw [lkY_ids] at hj; simp at hj; omega
              · exact hk.elim
            · exact hk.elim
          · exact hk.elim
        · exact h44L_ok _ _ _ _ _ hk
      · exact hk.elim
    · exact hk.elim
  · exact hk.elim
theorem sp63_ok : SpOk Try.prog sp63 := spNil_ok
theorem c63 (i : Int) (l : LK) (hp : 0 ≤ i ∧ i < l.ag.length ∧ ∃ (t n : Int) (ls : List V), getV l.ag i = .agg [.int .i64 t, .int .i64 n, .list false ls]) : LR 63 [.int .i64 i] l (getV l.ag i) := by
  intro z z1
  refine callQ_go (own := none) (pur := []) (n1 := 1000) (η := [(0, ⟨none, z, lkV l 1⟩), (1, ⟨some 57, z1, .agg l.es⟩)]) (η1 := [(0, ⟨none, z, lkV l 1⟩), (1, ⟨some 57, z1, .agg l.es⟩)]) (ids := [0, 1]) (ks := [⟨none, z, lkV l 1⟩, ⟨some 57, z1, .agg l.es⟩]) (hint := none) (Ls := noLs) (hints := noHint) (prs := prsOf []) (N := 13) sp63_ok Try.func63 Try.ntmps63 (by kernel_rfl) (noLoop_ok (by kernel_rfl)) rfl ((n63 i l z z1 _ _).mpr ?_)
  obtain ⟨h0, h1, t, n, ls, e⟩ := hp
  exact ⟨h0, h1, t, n, ls, e, e, rfl⟩
theorem h63_ok : HOk Try.prog 63 (hbR s63) := hbR_ok fun rest l k h => by
  unfold s63 at h
  split at h
  · obtain ⟨h0, h1, t, n, ls, e, h2⟩ := h
    exact ⟨_, c63 _ _ ⟨h0, h1, t, n, ls, e⟩, by rw [e]; rfl, by rw [e]; exact h2⟩
  · exact h.elim
theorem sp34_ok : SpOk Try.prog sp34 := spNil_ok
theorem c34 (i : Int) (l : LK) (hp : 0 ≤ i ∧ i < l.ag.length ∧ ∃ (t n : Int) (ls : List V), getV l.ag i = .agg [.int .i64 t, .int .i64 n, .list false ls]) : LR 34 [.int .i64 i] l (.int .i64 (nV (getV l.ag i))) := by
  intro z z1
  refine callQ_go (own := none) (pur := []) (n1 := 1000) (η := [(0, ⟨none, z, lkV l 1⟩), (1, ⟨some 57, z1, .agg l.es⟩)]) (η1 := [(0, ⟨none, z, lkV l 1⟩), (1, ⟨some 57, z1, .agg l.es⟩)]) (ids := [0, 1]) (ks := [⟨none, z, lkV l 1⟩, ⟨some 57, z1, .agg l.es⟩]) (hint := none) (Ls := noLs) (hints := noHint) (prs := prsOf []) (N := 14) sp34_ok Try.func34 Try.ntmps34 (by kernel_rfl) (noLoop_ok (by kernel_rfl)) rfl ((n34 i l z z1 _ _).mpr ?_)
  obtain ⟨h0, h1, t, n, ls, e⟩ := hp
  exact ⟨h0, h1, t, n, ls, e, by rw [e]; rfl, rfl⟩
theorem h34_ok : HOk Try.prog 34 (hbR s34) := hbR_ok fun rest l k h => by
  unfold s34 at h
  split at h
  · obtain ⟨h0, h1, t, n, ls, e, h2⟩ := h
    exact ⟨_, c34 _ _ ⟨h0, h1, t, n, ls, e⟩, rfl, by rw [e]; exact h2⟩
  · exact h.elim
theorem c34y (i : Int) (l : LK) (hp : 0 ≤ i ∧ i < l.ag.length ∧ ∃ (t n : Int) (ls : List V), getV l.ag i = .agg [.int .i64 t, .int .i64 n, .list false ls]) (z z1 z2 : Bool) : CallH Try.prog 34 [.ptr 0 0 [], .int .i64 i] (lkB [(0, ⟨none, z, lkY l 1 2⟩), (1, ⟨some 57, z1, .agg l.es⟩), (2, ⟨some 24, z2, .agg l.o.ys⟩)]) (.int .i64 (nV (getV l.ag i))) (lkB [(0, ⟨none, z, lkY l 1 2⟩), (1, ⟨some 57, z1, .agg l.es⟩), (2, ⟨some 24, z2, .agg l.o.ys⟩)]) := by
  refine callQ_go (own := none) (pur := []) (n1 := 1000) (η := [(0, ⟨none, z, lkY l 1 2⟩), (1, ⟨some 57, z1, .agg l.es⟩), (2, ⟨some 24, z2, .agg l.o.ys⟩)]) (η1 := [(0, ⟨none, z, lkY l 1 2⟩), (1, ⟨some 57, z1, .agg l.es⟩), (2, ⟨some 24, z2, .agg l.o.ys⟩)]) (ids := [0, 1, 2]) (ks := [⟨none, z, lkY l 1 2⟩, ⟨some 57, z1, .agg l.es⟩, ⟨some 24, z2, .agg l.o.ys⟩]) (hint := none) (Ls := noLs) (hints := noHint) (prs := prsOf []) (N := 14) sp34_ok Try.func34 Try.ntmps34 (by kernel_rfl) (noLoop_ok (by kernel_rfl)) rfl ((n34y i l z z1 z2 _ _).mpr ?_)
  obtain ⟨h0, h1, t, n, ls, e⟩ := hp
  exact ⟨h0, h1, t, n, ls, e, by rw [e]; rfl, rfl⟩
theorem s34_inv {rest : List V} {l : LK} {k : V → Prop} (h : s34 rest l k) : ∃ i, rest = [.int .i64 i] ∧ (0 ≤ i ∧ i < l.ag.length ∧ ∃ (t n : Int) (ls : List V), getV l.ag i = .agg [.int .i64 t, .int .i64 n, .list false ls]) ∧ k (.int .i64 (nV (getV l.ag i))) := by
  unfold s34 at h
  split at h
  · obtain ⟨h0, h1, t, n, ls, e, h2⟩ := h
    exact ⟨_, rfl, ⟨h0, h1, t, n, ls, e⟩, by rw [e]; exact h2⟩
  · exact h.elim
theorem h34N_ok : HOk Try.prog 34 hbN := by
  intro hvc rest H1 id k hk
  unfold hbN at hk
  split at hk
  · rename_i c
    split at hk
    · rename_i z t hc
      split at hk
      · rename_i a1 a2 a3 x0 x1 ys x3 x4 e n a6 a7
        split at hk
        · rename_i y m
          split at hk
          · rename_i E z1 rows he
            split at hk
            · rename_i F z2 yr hy
              rw [chkP_iff, chkP_iff] at hk
              obtain ⟨hE, hF, hk⟩ := hk
              have hE := Nat.eq_of_beq_eq_true hE
              have hF := Nat.eq_of_beq_eq_true hF
              subst hE hF
              split at hk
              · rename_i hey
                have hey : e ≠ y := fun h => by rw [h, Nat.beq_refl] at hey; cases hey
                obtain ⟨l, ht, hr, hyr, hs⟩ := hk
                subst hr hyr
                obtain ⟨i, rfl, hp, hs⟩ := s34_inv hs
                refine ⟨_, _, hsem_pey_ro (t := lkY l 1 2) hey hc he hy (by rw [lkY_ren]; exact ht.symm) ?_ ?_ (fun j hj => ?_) rfl (c34y i l hp z z1 z2), hs⟩
                · rw [ht, lkY_ids]; simp
                · rw [ht, lkY_ids]; simp
                · rw [lkY_ids] at hj; simp at hj; omega
              · exact hk.elim
            · exact hk.elim
          · exact hk.elim
        · exact h34_ok _ _ _ _ _ hk
      · exact hk.elim
    · exact hk.elim
  · exact hk.elim
theorem sp57_ok : SpOk Try.prog sp57 := spAdd_ok b72_ok (spNil_ok)
theorem c57 (tg n : Int) (ls : List V) (l : LK) (hp : LOk l) : LR 57 [.agg [.int .i64 tg, .int .i64 n, .list false ls]] l (.agg [.int .i64 (whatK l tg n).1, .int .i64 (whatK l tg n).2]) := by
  intro z z1
  refine callQ_go (own := none) (pur := []) (n1 := 1000) (η := [(0, ⟨none, z, lkV l 1⟩), (1, ⟨some 57, z1, .agg l.es⟩)]) (η1 := [(0, ⟨none, z, lkV l 1⟩), (1, ⟨some 57, z1, .agg l.es⟩)]) (ids := [0, 1]) (ks := [⟨none, z, lkV l 1⟩, ⟨some 57, z1, .agg l.es⟩]) (hint := none) (Ls := noLs) (hints := noHint) (prs := prsOf [(1, [[], [0], [1, 0], [2, 1, 0], [], [], [5], [6, 5], [7, 6, 5], [8, 7, 6, 5], [3, 2, 1, 0, 4, 9, 8, 7, 6, 5], [10, 3, 2, 1, 0, 4, 9, 8, 7, 6, 5]])]) (N := 16) sp57_ok Try.func57 Try.ntmps57 (by kernel_rfl) (noLoop_ok (by kernel_rfl)) rfl ((n57 tg n ls l z z1 _ _).mpr ?_)
  exact ⟨hp.1.1, ⟨⟨_, rfl⟩, hp.2.1⟩, _, rfl, fun q e => by subst e; exact ⟨rfl, rfl⟩⟩
theorem h57_ok : HOk Try.prog 57 (hbR s57) := hbR_ok fun rest l k h => by
  unfold s57 at h
  split at h
  · exact ⟨_, c57 _ _ _ _ h.1, rfl, h.2 _ rfl⟩
  · exact h.elim
theorem sp69_ok : SpOk Try.prog sp69 := shAdd_ok h44M_ok (spNil_ok)
theorem c69 (n : Int) (l : LK)  : LC 69 [.int .i64 n] l (.tup []) (takeL l n) := by
  refine callQ_go (own := none) (pur := []) (n1 := 1000) (η := [(0, ⟨none, false, lkV l 1⟩), (1, ⟨some 57, false, .agg l.es⟩)]) (η1 := [(0, ⟨none, false, lkV l 1⟩), (1, ⟨some 57, false, .agg l.es⟩)]) (ids := [0, 1]) (ks := [⟨none, false, lkV (takeL l n) 1⟩, ⟨some 57, false, .agg (takeL l n).es⟩]) (hint := none) (Ls := noLs) (hints := noHint) (prs := prsOf []) (N := 24) sp69_ok Try.func69 Try.ntmps69 (by kernel_rfl) (noLoop_ok (by kernel_rfl)) rfl ((n69 n l _ _).mpr ?_)
  intro x0 e0; subst e0
  refine ⟨l, rfl, rfl, fun l1 e1 x5 e5 => ?_⟩
  subst e1 e5
  exact ⟨rfl, rfl⟩
theorem h69_ok : HOk Try.prog 69 (hbL s69) := hbL_ok fun rest l k h => by
  unfold s69 at h
  split at h
  · exact ⟨_, _, c69 _ _, rfl, h _ rfl⟩
  · exact h.elim
theorem sp64_ok : SpOk Try.prog sp64 := shAdd_ok h44M_ok (spAdd_ok b15_ok (spAdd_ok b16_ok (spAdd_ok b47_ok (spNil_ok))))
theorem c64 (n : Int) (l : LK) (hp : LOk l) : LC 64 [.int .i64 n] l (.tup []) (liveL l n) := by
  refine callQ_go (own := none) (pur := []) (n1 := 1000) (η := [(0, ⟨none, false, lkV l 1⟩), (1, ⟨some 57, false, .agg l.es⟩)]) (η1 := [(0, ⟨none, false, lkV l 1⟩), (1, ⟨some 57, false, .agg l.es⟩)]) (ids := [0, 1]) (ks := [⟨none, false, lkV (liveL l n) 1⟩, ⟨some 57, false, .agg (liveL l n).es⟩]) (hint := none) (Ls := noLs) (hints := noHint) (prs := prsOf []) (N := 32) sp64_ok Try.func64 Try.ntmps64 (by kernel_rfl) (noLoop_ok (by kernel_rfl)) rfl ((n64 n l _ _).mpr ?_)
  refine ⟨_, rfl, fun h1 => ⟨⟨⟨_, rfl⟩, hp.2.1⟩, l, rfl, rfl, fun l1 e1 => ⟨_, rfl, ?_, fun g eg => ?_⟩⟩, fun h1 => ⟨l, rfl, rfl, fun l1 e1 => ⟨_, rfl, ?_, fun g eg => ?_⟩⟩⟩
  · subst e1; exact ⟨⟨_, rfl⟩, hp.2.2.1⟩
  · subst e1 eg
    have e : liveL l n = { mustL l (readyB l.s.fr l.s.ys) with o := { l.o with f := cutF l.o.f (clampN n), rm := 0 } } := by unfold liveL mustL; rw [h1]; rfl
    rw [e]; exact ⟨rfl, rfl⟩
  · subst e1; exact ⟨⟨_, rfl⟩, hp.2.2.1⟩
  · subst e1 eg
    have e : liveL l n = { mustL l false with o := { l.o with f := cutF l.o.f (clampN n), rm := 0 } } := by unfold liveL mustL; rw [h1]; rfl
    rw [e]; exact ⟨rfl, rfl⟩
theorem h64_ok : HOk Try.prog 64 (hbL s64) := hbL_ok fun rest l k h => by
  unfold s64 at h
  split at h
  · exact ⟨_, _, c64 _ _ h.1, rfl, h.2 _ rfl⟩
  · exact h.elim
theorem sp59_ok : SpOk Try.prog sp59 := spAdd_ok b47_ok (spAdd_ok b48_ok (spNil_ok))
theorem c59  (l : LK) (hp : LOk l) : LC 59 [] l (.tup []) (calledL l) := by
  refine callQ_go (own := none) (pur := []) (n1 := 1000) (η := [(0, ⟨none, false, lkV l 1⟩), (1, ⟨some 57, false, .agg l.es⟩)]) (η1 := [(0, ⟨none, false, lkV l 1⟩), (1, ⟨some 57, false, .agg l.es⟩)]) (ids := [0, 1]) (ks := [⟨none, false, lkV (calledL l) 1⟩, ⟨some 57, false, .agg (calledL l).es⟩]) (hint := none) (Ls := noLs) (hints := noHint) (prs := prsOf [(1, [[], [], [0], [2, 0], [3, 2, 0], [4, 3, 2, 0, 1], [5, 4, 3, 2, 0, 1]])]) (N := 20) sp59_ok Try.func59 Try.ntmps59 (by kernel_rfl) (noLoop_ok (by kernel_rfl)) rfl ((n59  l _ _).mpr ?_)
  refine ⟨_, rfl, ⟨⟨_, rfl⟩, hp.2.2.1⟩, fun g e => ⟨Int.le_refl _, by decide, ?_⟩⟩
  subst e
  exact ⟨rfl, rfl⟩
theorem h59_ok : HOk Try.prog 59 (hbL s59) := hbL_ok fun rest l k h => by
  unfold s59 at h
  split at h
  · exact ⟨_, _, c59 _ h.1, rfl, h.2 _ rfl⟩
  · exact h.elim
theorem sp67_ok : SpOk Try.prog sp67 := shAdd_ok h57_ok (shAdd_ok h44M_ok (spNil_ok))
theorem c67 (tg n : Int) (ls : List V) (l : LK) (hp : LOk l) : LC 67 [.agg [.int .i64 tg, .int .i64 n, .list false ls]] l (.tup []) (mustL l ((whatK l tg n).1 == 128)) := by
  refine callQ_go (own := none) (pur := []) (n1 := 1000) (η := [(0, ⟨none, false, lkV l 1⟩), (1, ⟨some 57, false, .agg l.es⟩)]) (η1 := [(0, ⟨none, false, lkV l 1⟩), (1, ⟨some 57, false, .agg l.es⟩)]) (ids := [0, 1]) (ks := [⟨none, false, lkV (mustL l ((whatK l tg n).1 == 128)) 1⟩, ⟨some 57, false, .agg (mustL l ((whatK l tg n).1 == 128)).es⟩]) (hint := none) (Ls := noLs) (hints := noHint) (prs := prsOf []) (N := 11) sp67_ok Try.func67 Try.ntmps67 (by kernel_rfl) (noLoop_ok (by kernel_rfl)) rfl ((n67 tg n ls l _ _).mpr ?_)
  refine ⟨l, rfl, rfl, hp, fun q e x e3 => ⟨l, rfl, rfl, fun l1 e1 => ?_⟩⟩
  subst e e3 e1
  exact ⟨rfl, rfl⟩
theorem h67_ok : HOk Try.prog 67 (hbL s67) := hbL_ok fun rest l k h => by
  unfold s67 at h
  split at h
  · exact ⟨_, _, c67 _ _ _ _ h.1, rfl, h.2 _ rfl⟩
  · exact h.elim
theorem sp62_ok : SpOk Try.prog sp62 := shAdd_ok h44M_ok (spAdd_ok b74_ok (spAdd_ok b75_ok (spNil_ok)))
theorem c62 (tg n : Int) (ls : List V) (m a : Int) (l : LK) (hp : LOk l) : LC 62 [.agg [.int .i64 tg, .int .i64 n, .list false ls], .agg [.int .i64 m, .int .i64 a]] l (.tup []) (dstL l tg n m a) := by
  refine callQ_go (own := none) (pur := []) (n1 := 1000) (η := [(0, ⟨none, false, lkV l 1⟩), (1, ⟨some 57, false, .agg l.es⟩)]) (η1 := [(0, ⟨none, false, lkV l 1⟩), (1, ⟨some 57, false, .agg l.es⟩)]) (ids := [0, 1]) (ks := [⟨none, false, lkV (dstL l tg n m a) 1⟩, ⟨some 57, false, .agg (dstL l tg n m a).es⟩]) (hint := none) (Ls := noLs) (hints := noHint) (prs := prsOf [(1, [[], [0], [1, 0], [2, 1, 0], [3, 2, 1, 0], [4, 3, 2, 1, 0], [5, 4, 3, 2, 1, 0], [6, 5, 4, 3, 2, 1, 0], [7, 6, 5, 4, 3, 2, 1, 0], [3, 2, 1, 0], [9, 3, 2, 1, 0], [8, 7, 6, 5, 4, 3, 2, 1, 0, 10, 9], [3, 2, 1, 0, 11, 8, 7, 6, 5, 4, 10, 9]]), (3, [[], [0], [1, 0], [2, 1, 0], [], [], [3, 2, 1, 0, 4, 5], [6, 3, 2, 1, 0, 4, 5], [7, 6, 3, 2, 1, 0, 4, 5], [7, 6, 3, 2, 1, 0, 4, 5], [], [10, 8, 7, 6, 3, 2, 1, 0, 4, 5], [9, 7, 6, 3, 2, 1, 0, 4, 5, 11, 10, 8]])]) (N := 40) sp62_ok Try.func62 Try.ntmps62 (by kernel_rfl) (noLoop_ok (by kernel_rfl)) rfl ((n62 tg n ls m a l _ _).mpr ?_)
  intro x0 e0; subst e0
  have hgo : dstBad l tg n = false → SOk (arrF 16 l.o.f) l.o.ys l.o.ts ∧ ∃ f8 : Nat → Int × Int, arrF 16 l.o.f = arrF 16 f8 ∧ ∀ (g9 : Nat → Int × Int), g9 = putF f8 tg n m a → ∀ zs : List V, zs = putZ l.o.fr l.o.ys tg n m a → ∀ ok : Bool, ok = putO l.o.fr l.o.ys tg n → ∃ l15 : LK, lkV l 1 = lkV l15 1 ∧ l.es = l15.es ∧ ∀ l16, l16 = mustL l15 ok →
      (l16.rt = true → V.tup [] = V.tup [] ∧ [⟨none, false, lkV (dstL l tg n m a) 1⟩, ⟨some 57, false, .agg (dstL l tg n m a).es⟩] = [(⟨none, false, V.agg [mdV l16.m, .agg [.int .i64 l16.op, .list false l16.ag], fsV l16.s, .agg [.agg (arrF 16 g9), .bool l.o.fr, .list false zs, .int .i64 l.o.rm, .list false l.o.ts], .sl 1 l16.es.length, .bool l16.g, .bool l16.rt]⟩ : Blk), ⟨some 57, false, .agg l16.es⟩]) ∧
      (l16.rt = false → V.tup [] = V.tup [] ∧ [⟨none, false, lkV (dstL l tg n m a) 1⟩, ⟨some 57, false, .agg (dstL l tg n m a).es⟩] = [(⟨none, false, lkV l16 1⟩ : Blk), ⟨some 57, false, .agg l16.es⟩]) := by
    intro hb
    have hd : dstGo l tg n = putO l.o.fr l.o.ys tg n := by simp [dstGo, hb]
    refine ⟨⟨⟨_, rfl⟩, hp.2.2.1⟩, _, rfl, fun g eg zs ez ok eo => ⟨l, rfl, rfl, fun l1 e1 => ⟨fun h => ?_, fun h => ?_⟩⟩⟩
    · subst eg ez eo e1
      have h2 : l.rt = true ∧ putO l.o.fr l.o.ys tg n = true := by
        simp only [mustL] at h
        split at h
        · exact ⟨‹_›, h⟩
        · cases h
      have e : dstL l tg n m a = { mustL l (putO l.o.fr l.o.ys tg n) with o := { l.o with f := putF l.o.f tg n m a, ys := putZ l.o.fr l.o.ys tg n m a } } := by
        unfold dstL mustL; rw [hd]; simp [h2.1, h2.2]
      rw [e]; exact ⟨rfl, rfl⟩
    · subst eg ez eo e1
      have e : dstL l tg n m a = mustL l (putO l.o.fr l.o.ys tg n) := by
        unfold dstL mustL; rw [hd]
        simp only [mustL] at h
        split at h
        · rename_i h1; simp [h1, h]
        · rename_i h1; simp [h1]
      rw [e]; exact ⟨rfl, rfl⟩
  refine ⟨fun h4 => ⟨hp.2.2.1.2.2.1, by have := hp.2.2.1.2.2.2; omega, fun hm => ⟨l, rfl, rfl, fun l1 e1 => ?_⟩, fun hm => ?_⟩, fun h4 => ?_⟩
  · subst e1
    have hb : dstGo l tg n = false := by simp [dstGo, dstBad, h4, hm]
    have e : dstL l tg n m a = mustL l false := by unfold dstL mustL; rw [hb]; simp
    rw [e]; exact ⟨rfl, rfl⟩
  · exact hgo (by simp [dstBad, h4, hm])
  · exact hgo (by simp [dstBad, h4])
theorem h62_ok : HOk Try.prog 62 (hbL s62) := hbL_ok fun rest l k h => by
  unfold s62 at h
  split at h
  · exact ⟨_, _, c62 _ _ _ _ _ _ h.1, rfl, h.2 _ rfl⟩
  · exact h.elim
theorem sp35_ok : SpOk Try.prog sp35 := shAdd_ok h57_ok (spAdd_ok b26_ok (shAdd_ok h44M_ok (spNil_ok)))
theorem kdV_must (l : LK) (b : Bool) (v : V) : kdV (mustL l b) v = kdV l v := by
  unfold kdV mustL whatK
  rfl
theorem srcOk_must (l : LK) (b : Bool) : ∀ xs, srcOk (mustL l b) xs = srcOk l xs
  | [] => rfl
  | v :: r => by simp only [srcOk, kdV_must, srcOk_must l b r]
theorem srcLast_must (l : LK) (b : Bool) : ∀ xs q, srcLast (mustL l b) q xs = srcLast l q xs
  | [], q => rfl
  | v :: r, q => by simp only [srcLast, kdV_must, srcLast_must l b r]
theorem srcL_cons (l : LK) (v : V) (r : List V) : srcL l (v :: r) = srcL (mustL l (plain (kdV l v).1 (kdV l v).2)) r := by
  unfold srcL
  rw [srcOk_must]
  obtain ⟨m, op, ag, s, o, es, g, rt⟩ := l
  cases rt <;> simp only [srcOk, mustL, if_true, if_false, Bool.false_eq_true]
theorem srcL_nil (l : LK) : srcL l [] = l := by
  unfold srcL
  obtain ⟨m, op, ag, s, o, es, g, rt⟩ := l
  cases rt <;> simp only [srcOk, if_true, if_false, Bool.false_eq_true]
theorem lok_must {l : LK} (h : LOk l) (b : Bool) : LOk (mustL l b) := h
theorem getV_memL {xs : List V} {i : Int} (h0 : 0 ≤ i) (h : i < xs.length) : getV xs i ∈ xs := by
  have hlt : i.toNat < xs.length := by omega
  have : getV xs i = xs[i.toNat] := by simp [getV, List.getD, hlt]
  rw [this]; exact List.getElem_mem hlt
theorem wrap_1 {i : Int} (h0 : 0 ≤ i) (h1 : i < 4611686018427387904) : IntKind.wrap IntKind.i64 (i + 1) = i + 1 := by rw [IntKind.wrap_i64]; omega
theorem lp35 : LsOk Try.prog 23 1005 [0, 4, 5, 8, 9, 10] [0, 1, 1000, 1001] ent35 (lcode Try.f35 0).2 := by
  intro vs ks K h
  unfold ent35 at h
  split at h
  · rename_i xs n i t rows z m a
    obtain ⟨rfl, rfl, hx, hb, rfl, l, rfl, rfl, hl, hK⟩ := h
    refine loop_rule (hints := noHint) (prs := prsOf []) (Ls := noLs) sp35_ok ends35_0 (γ := LK × Int × (Int × Int)) (fun g => [.ptr 0 0 [], .ptr 1000 0 [], .ptr 1001 0 [], .list false xs, .int .i64 xs.length, .int .i64 g.2.1]) (fun g => [⟨none, false, lkV g.1 1⟩, ⟨some 57, false, .agg g.1.es⟩, ⟨none, false, .agg [.int .i64 0, .int .i64 0]⟩, ⟨none, false, .agg [.int .i64 g.2.2.1, .int .i64 g.2.2.2]⟩]) (fun g => xs.length - g.2.1.toNat)
      (fun g => 0 ≤ g.2.1 ∧ g.2.1 ≤ xs.length ∧ LOk g.1 ∧ srcL g.1 (xs.drop g.2.1.toNat) = srcL l xs ∧ srcLast g.1 g.2.2 (xs.drop g.2.1.toNat) = srcLast l (m, a) xs) K (noLoop_ok (by kernel_rfl)) ?_ (l, 0, (m, a)) ⟨Int.le_refl _, by show (0 : Int) ≤ _; omega, hl, rfl, rfl⟩
    rintro ⟨l1, i, q⟩ ⟨h0, h1, h2, h3, h4⟩
    simp only at h0 h1 h2 h3 h4
    refine (nl35_0 l1 xs _ i q.1 q.2 _ _ _).mpr ?_
    intro x hx0; subst hx0
    refine ⟨fun h5 => ?_, fun h5 => ?_⟩
    · simp only [decide_eq_true_eq] at h5
      rw [drop_dec h0 h5] at h3 h4
      obtain ⟨tg, n, ls, e⟩ := hx _ (getV_memL h0 h5)
      refine ⟨h0, h5, tg, n, ls, e, l1, rfl, rfl, h2, fun q1 e1 => ⟨l1, rfl, rfl, fun l2 e2 => ?_⟩⟩
      have hk : kdV l1 (getV xs i) = q1 := by rw [e, e1]; rfl
      rw [srcL_cons, hk, ← e2] at h3
      have h4' : srcLast l2 q1 (xs.drop (i + 1).toNat) = srcLast l (m, a) xs := by
        rw [← h4, e2, srcLast_must]
        simp only [srcLast, hk]
      have hl2 : LOk l2 := by rw [e2]; exact lok_must h2 _
      intro y hy
      rw [wrap_1 h0 (by omega)] at hy
      subst hy
      exact ⟨hl2.2.2.2, (l2, i + 1, q1), rfl, rfl, by show xs.length - (i + 1).toNat < xs.length - i.toNat; omega, by show 0 ≤ i + 1; omega, by show i + 1 ≤ _; omega, hl2, h3, h4'⟩
    · simp only [decide_eq_false_iff_not] at h5
      have hd : xs.drop i.toNat = [] := List.drop_eq_nil_of_le (by omega)
      rw [hd] at h3 h4
      rw [srcL_nil] at h3
      refine ⟨h2.2.2.2, ?_⟩
      exact hK l1 h3 q h4.symm.symm
  · exact h.elim
theorem c35 (xs : List V) (l : LK) (hp : LOk l ∧ ArgL xs ∧ xs.length ≤ 100000) : LC 35 [.list false xs] l (.agg [.int .i64 (srcLast l (0, 0) xs).1, .int .i64 (srcLast l (0, 0) xs).2]) (srcL l xs) := by
  refine callQ_go (own := none) (pur := []) (n1 := 1000) (η := [(0, ⟨none, false, lkV l 1⟩), (1, ⟨some 57, false, .agg l.es⟩)]) (η1 := [(0, ⟨none, false, lkV l 1⟩), (1, ⟨some 57, false, .agg l.es⟩)]) (ids := [0, 1]) (ks := [⟨none, false, lkV (srcL l xs) 1⟩, ⟨some 57, false, .agg (srcL l xs).es⟩]) (hint := none) (Ls := ls35) (hints := noHint) (prs := prsOf []) (N := 23) sp35_ok Try.func35 Try.ntmps35 (by kernel_rfl) (loopsOf_ok fun p hp => by
    have e : loopsOf 0 (bodyOf Try.f35) = [lcode Try.f35 0] := by kernel_rfl
    rw [e] at hp
    simp only [List.mem_cons, List.not_mem_nil, or_false] at hp
    subst hp
    exact lsAdd_hit lp35) rfl ((n35 xs l _ _).mpr ?_)
  intro _ x1 e1
  refine ⟨hp.1.2.2.2, rfl, e1, hp.2.1, hp.2.2, rfl, l, rfl, rfl, hp.1, fun l' e2 q e3 => ?_⟩
  subst e2 e3
  exact ⟨rfl, rfl⟩
theorem h35_ok : HOk Try.prog 35 (hbL s35) := hbL_ok fun rest l k h => by
  unfold s35 at h
  split at h
  · exact ⟨_, _, c35 _ _ ⟨h.1, h.2.1, h.2.2.1⟩, rfl, h.2.2.2 _ rfl _ rfl⟩
  · exact h.elim
theorem sp33_ok : SpOk Try.prog sp33 := spNil_ok
theorem edge_ids (s : FS) : ∀ ns, NoIds (edgeRows s ns)
  | [], v, hv => by cases hv
  | x :: r, v, hv => by
    unfold edgeRows at hv
    split at hv
    · cases hv
    · rename_i e
      split at hv
      · rcases List.mem_cons.1 hv with rfl | hv
        · rfl
        · cases e; exact edge_ids s _ v hv
      · cases e; exact edge_ids s _ v hv
    · rename_i e; cases e; exact edge_ids s _ v hv
theorem edge_len (s : FS) : ∀ ns, (edgeRows s ns).length ≤ ns.length
  | [] => Nat.le_refl _
  | x :: r => by
    have := edge_len s r
    unfold edgeRows
    split
    · simp
    · rename_i e; cases e
      split <;> simp <;> omega
    · rename_i e; cases e; simp; omega
theorem lok_edge {l : LK} (h : LOk l) (s : FS) (ns : List V) : LOk (edgeL l s ns) := by
  refine ⟨h.1, h.2.1, h.2.2.1, fun v hv => ?_⟩
  rcases List.mem_append.1 hv with hv | hv
  · exact h.2.2.2 v hv
  · exact edge_ids s ns v hv
theorem edgeL_nil (l : LK) (s : FS) : edgeL l s [] = l := by
  obtain ⟨m, op, ag, s1, o, es, g, rt⟩ := l
  simp [edgeL, edgeRows]
theorem edgeL_cons (l : LK) (s : FS) (n : Int) (r : List V) : edgeL l s (.int .i64 n :: r) = edgeL (if (n != 0) = true then { l with es := l.es ++ [.agg [.int .i64 n, fsV s]] } else l) s r := by
  simp only [edgeL, edgeRows]
  split <;> simp
theorem row_sz (n : Int) (s : FS) : V.sz (.agg [.int .i64 n, fsV s]) = 37 := by kernel_rfl
theorem lkV_push (l : LK) (row : V) : lkV { l with es := l.es ++ [row] } 1 = .agg [mdV l.m, .agg [.int .i64 l.op, .list false l.ag], fsV l.s, fsV l.o, .sl 1 (l.es.length + [row].length), .bool l.g, .bool l.rt] := by
  unfold lkV
  simp
theorem lp33 : LsOk Try.prog 29 1004 [0, 4, 8, 9, 10] [0, 1, 1000] ent33 (lcode Try.f33 0).2 := by
  intro vs ks K h
  unfold ent33 at h
  split at h
  · rename_i ns n i t rows X fr ys rm ts
    obtain ⟨rfl, rfl, hn, hb, f, rfl, l, rfl, rfl, hl, he, hK⟩ := h
    refine loop_rule (hints := noHint) (prs := prsOf [(5, [[], [], [1], [2, 1], [3, 2, 1], [], [], [5, 6], [7, 5, 6], [4, 3, 2, 1, 8, 7, 5, 6], [0, 1, 2, 3, 4, 5, 6, 7, 8, 9], [10, 0, 1, 2, 3, 4, 5, 6, 7, 8, 9], [11, 10, 0, 1, 2, 3, 4, 5, 6, 7, 8, 9]])]) (Ls := noLs) sp33_ok ends33_0 (γ := LK × Int) (fun g => [.ptr 0 0 [], .ptr 1000 0 [], .list false ns, .int .i64 ns.length, .int .i64 g.2]) (fun g => [⟨none, false, lkV g.1 1⟩, ⟨some 57, false, .agg g.1.es⟩, ⟨none, false, fsV ⟨f, fr, ys, rm, ts⟩⟩]) (fun g => ns.length - g.2.toNat)
      (fun g => 0 ≤ g.2 ∧ g.2 ≤ ns.length ∧ LOk g.1 ∧ g.1.es.length ≤ 5000 + g.2.toNat ∧ edgeL g.1 ⟨f, fr, ys, rm, ts⟩ (ns.drop g.2.toNat) = edgeL l ⟨f, fr, ys, rm, ts⟩ ns) K (noLoop_ok (by kernel_rfl)) ?_ (l, 0) ⟨Int.le_refl _, by show (0 : Int) ≤ _; omega, hl, he, rfl⟩
    rintro ⟨l1, i⟩ ⟨h0, h1, h2, h3, h4⟩
    simp only at h0 h1 h2 h3 h4
    refine (nl33_0 l1 ⟨f, fr, ys, rm, ts⟩ ns _ i _ _ _).mpr ?_
    intro x hx0; subst hx0
    refine ⟨fun h5 => ?_, fun h5 => ?_⟩
    · simp only [decide_eq_true_eq] at h5
      rw [drop_dec h0 h5] at h4
      obtain ⟨n, e⟩ := hn _ (getV_memL h0 h5)
      rw [e, edgeL_cons] at h4
      refine ⟨h0, h5, n, e, fun x4 e4 => ?_⟩
      subst e4
      refine ⟨fun h6 => ⟨⟨rfl, rfl, ⟨rfl, trivial⟩, fun v hv => ?_, rfl, rfl, 328, rfl, ?_, ?_⟩, fun y hy => ?_⟩, fun h6 y hy => ?_⟩
      · have h7 := List.mem_singleton.1 hv
        rw [h7]
        exact row_sz n _
      · simp only [List.length_cons, List.length_nil]
        show (l1.es.length + (0 + 1)) * 328 ≤ _
        omega
      · simp only [List.length_cons, List.length_nil]
        show l1.es.length + (0 + 1) ≤ _
        omega
      · rw [wrap_1 h0 (by omega)] at hy
        subst hy
        rw [if_pos h6] at h4
        have hl2 : LOk { l1 with es := l1.es ++ [.agg [.int .i64 n, fsV ⟨f, fr, ys, rm, ts⟩]] } := ⟨h2.1, h2.2.1, h2.2.2.1, fun v hv => by
          rcases List.mem_append.1 hv with hv | hv
          · exact h2.2.2.2 v hv
          · simp at hv; subst hv; rfl⟩
        refine ⟨hl2.2.2.2, ({ l1 with es := l1.es ++ [.agg [.int .i64 n, fsV ⟨f, fr, ys, rm, ts⟩]] }, i + 1), rfl, ?_, by show ns.length - (i + 1).toNat < ns.length - i.toNat; omega, by show 0 ≤ i + 1; omega, by show i + 1 ≤ _; omega, hl2, ?_, h4⟩
        · show _ = ([⟨none, false, lkV { l1 with es := l1.es ++ [.agg [.int .i64 n, fsV ⟨f, fr, ys, rm, ts⟩]] } 1⟩, _, _] : List Blk)
          rw [lkV_push]; rfl
        · show (l1.es ++ [_]).length ≤ 5000 + (i + 1).toNat
          rw [List.length_append]; simp only [List.length_cons, List.length_nil]; omega
      · rw [wrap_1 h0 (by omega)] at hy
        subst hy
        rw [if_neg (by rw [h6]; decide)] at h4
        exact ⟨h2.2.2.2, (l1, i + 1), rfl, rfl, by show ns.length - (i + 1).toNat < ns.length - i.toNat; omega, by show 0 ≤ i + 1; omega, by show i + 1 ≤ _; omega, h2, by show l1.es.length ≤ 5000 + (i + 1).toNat; omega, h4⟩
    · simp only [decide_eq_false_iff_not] at h5
      have hd : ns.drop i.toNat = [] := List.drop_eq_nil_of_le (by omega)
      rw [hd, edgeL_nil] at h4
      exact ⟨h2.2.2.2, hK l1 h4⟩
  · exact h.elim
theorem c33 (s : FS) (ns : List V) (l : LK) (hp : LOk l ∧ NLs ns ∧ ns.length ≤ 1000 ∧ l.es.length ≤ 5000) : LC 33 [fsV s, .list false ns] l (.tup []) (edgeL l s ns) := by
  refine callQ_go (own := none) (pur := []) (n1 := 1000) (η := [(0, ⟨none, false, lkV l 1⟩), (1, ⟨some 57, false, .agg l.es⟩)]) (η1 := [(0, ⟨none, false, lkV l 1⟩), (1, ⟨some 57, false, .agg l.es⟩)]) (ids := [0, 1]) (ks := [⟨none, false, lkV (edgeL l s ns) 1⟩, ⟨some 57, false, .agg (edgeL l s ns).es⟩]) (hint := none) (Ls := ls33) (hints := noHint) (prs := prsOf [(5, [[], [], [1], [2, 1], [3, 2, 1], [], [], [5, 6], [7, 5, 6], [4, 3, 2, 1, 8, 7, 5, 6], [0, 1, 2, 3, 4, 5, 6, 7, 8, 9], [10, 0, 1, 2, 3, 4, 5, 6, 7, 8, 9], [11, 10, 0, 1, 2, 3, 4, 5, 6, 7, 8, 9]])]) (N := 29) sp33_ok Try.func33 Try.ntmps33 (by kernel_rfl) (loopsOf_ok fun p hp => by
    have e : loopsOf 0 (bodyOf Try.f33) = [lcode Try.f33 0] := by kernel_rfl
    rw [e] at hp
    simp only [List.mem_cons, List.not_mem_nil, or_false] at hp
    subst hp
    exact lsAdd_hit lp33) rfl ((n33 s ns l _ _).mpr ?_)
  intro _ x1 e1
  refine ⟨hp.1.2.2.2, rfl, e1, hp.2.1, hp.2.2.1, _, rfl, l, rfl, rfl, hp.1, hp.2.2.2, fun l' e2 => ?_⟩
  subst e2
  exact ⟨rfl, rfl⟩
theorem h33_ok : HOk Try.prog 33 (hbL s33) := hbL_ok fun rest l k h => by
  unfold s33 at h
  split at h
  · obtain ⟨h1, h2, h3, h4, f, rfl, h5⟩ := h
    exact ⟨_, _, c33 ⟨f, _, _, _, _⟩ _ _ ⟨h1, h2, h3, h4⟩, rfl, h5 _ rfl⟩
  · exact h.elim
theorem sp58_ok : SpOk Try.prog sp58 := shAdd_ok h44M_ok (spAdd_ok b26_ok (spNil_ok))
theorem plains_step (f : Nat → Int × Int) (i k : Nat) (h : i < k) : plainsN f i (k - i) = (if plain (f i).1 (f i).2 = true then plainsN f (i + 1) (k - (i + 1)) else false) := by
  obtain ⟨d, rfl⟩ : ∃ d, k = i + 1 + d := ⟨k - (i + 1), by omega⟩
  have e1 : i + 1 + d - i = d + 1 := by omega
  have e2 : i + 1 + d - (i + 1) = d := by omega
  rw [e1, e2]; rfl
theorem sub_lk (l : LK) {j : Nat} (h : j < 16) : subQ (lkV l 1) [2, 0, j] = some (.agg [.int .i64 (l.s.f j).1, .int .i64 (l.s.f j).2]) := by
  have := sub_arr l.s.f h
  simp only [subQ, lkV, fsV, V.sub, List.getElem?_cons_succ, List.getElem?_cons_zero] at this ⊢
  exact this
theorem off_lk (l : LK) {j : Nat} (h : j < 16) : offQ (lkV l 1) [2, 0, j] = 8 + j * 2 := by
  have e : offQ (lkV l 1) [2, 0, j] = 8 + offQ (.agg (arrF 16 l.s.f)) [j] := by
    have e1 : offQ (lkV l 1) [2, 0, j] = V.szs [mdV l.m, V.agg [V.int IntKind.i64 l.op, V.list false l.ag]] + (V.szs [] + offQ (.agg (arrF 16 l.s.f)) [j]) := rfl
    have e2 : V.szs [mdV l.m, V.agg [V.int IntKind.i64 l.op, V.list false l.ag]] = 8 := by kernel_rfl
    rw [e1, e2]; simp [V.szs]
  rw [e, off_arr l.s.f h]
theorem lp58 : LsOk Try.prog 28 1013 [0, 17, 18, 19] [0, 1] ent58 (lcode Try.f58 0).2 := by
  intro vs ks K h
  unfold ent58 at h
  split at h
  · rename_i k n i t rows
    obtain ⟨rfl, rfl, hk, l, rfl, rfl, hl, hK⟩ := h
    refine loop_rule (hints := hintOf [(3001, 24)]) (prs := prsOf []) (Ls := noLs) sp58_ok ends58_0 (γ := LK × Int) (fun g => [.ptr 0 0 [], .own k [.ptr 0 8 [2, 0]], .int .i64 k, .int .i64 g.2]) (fun g => [⟨none, false, lkV g.1 1⟩, ⟨some 57, false, .agg g.1.es⟩]) (fun g => k - g.2.toNat)
      (fun g => 0 ≤ g.2 ∧ g.2 ≤ k ∧ LOk g.1 ∧ { g.1 with rt := if g.1.rt = true then plainsN g.1.s.f g.2.toNat (k - g.2.toNat) else false } = { l with rt := if l.rt = true then plainsN l.s.f 0 k else false }) K (noLoop_ok (by kernel_rfl)) ?_ (l, 0) ⟨Int.le_refl _, by show (0 : Int) ≤ _; omega, hl, rfl⟩
    rintro ⟨l1, i⟩ ⟨h0, h1, h2, h4⟩
    simp only at h0 h1 h2 h4
    refine (nl58_0 l1 k _ i _ _ _).mpr ?_
    intro x hx0; subst hx0
    refine ⟨fun h5 => ?_, fun h5 => ?_⟩
    · simp only [decide_eq_true_eq] at h5
      have hlt : i.toNat < k := by omega
      refine ⟨h0, h5, (l1.s.f i.toNat).1, (l1.s.f i.toNat).2, sub_lk l1 (by omega), off_lk l1 (by omega), l1, rfl, rfl, fun l2 e2 y hy => ?_⟩
      rw [wrap_1 h0 (by omega)] at hy
      subst hy e2
      have et : (i + 1).toNat = i.toNat + 1 := by omega
      refine ⟨h2.2.2.2, (_, i + 1), rfl, rfl, by show k - (i + 1).toNat < k - i.toNat; omega, by show 0 ≤ i + 1; omega, by show i + 1 ≤ _; omega, lok_must h2 _, ?_⟩
      rw [← h4, plains_step _ _ _ hlt]
      show ({ l1 with rt := if (if l1.rt = true then plain (l1.s.f i.toNat).1 (l1.s.f i.toNat).2 else false) = true then plainsN l1.s.f (i + 1).toNat (k - (i + 1).toNat) else false } : LK) = _
      rw [et]
      cases l1.rt <;> simp only [if_true, if_false, Bool.false_eq_true]
    · simp only [decide_eq_false_iff_not] at h5
      have e : k - i.toNat = 0 := by omega
      rw [e] at h4
      refine ⟨h2.2.2.2, hK l1 ?_⟩
      rw [← h4]
      obtain ⟨m, op, ag, s, o, es, g, rt⟩ := l1
      cases rt <;> simp only [plainsN, if_true, if_false, Bool.false_eq_true]
  · exact h.elim
theorem c58 (n : Int) (l : LK) (hp : LOk l) : LC 58 [.int .i64 n] l (.tup []) (plainL l n) := by
  refine callQ_go (own := none) (pur := []) (n1 := 1000) (η := [(0, ⟨none, false, lkV l 1⟩), (1, ⟨some 57, false, .agg l.es⟩)]) (η1 := [(0, ⟨none, false, lkV l 1⟩), (1, ⟨some 57, false, .agg l.es⟩)]) (ids := [0, 1]) (ks := [⟨none, false, lkV (plainL l n) 1⟩, ⟨some 57, false, .agg (plainL l n).es⟩]) (hint := none) (Ls := ls58) (hints := (hintOf [(3001, 24)])) (prs := prsOf []) (N := 28) sp58_ok Try.func58 Try.ntmps58 (by kernel_rfl) (loopsOf_ok fun p hp => by
    have e : loopsOf 0 (bodyOf Try.f58) = [lcode Try.f58 0] := by kernel_rfl
    rw [e] at hp
    simp only [List.mem_cons, List.not_mem_nil, or_false] at hp
    subst hp
    exact lsAdd_hit lp58) rfl ((n58 n l _ _).mpr ?_)
  intro x0 e0; subst e0
  refine ⟨l, rfl, rfl, fun l1 e1 x5 e5 => ⟨fun h => ?_, fun h => ?_⟩⟩
  · subst e1 e5
    have hr : (mustL l (decide (n ≤ 16))).rt = false := by simpa using h
    have e : plainL l n = mustL l (decide (n ≤ 16)) := by
      obtain ⟨m, op, ag, s, o, es, g, rt⟩ := l
      unfold plainL mustL
      simp only [mustL] at hr ⊢
      cases rt <;> simp only [if_true, if_false, Bool.false_eq_true] at hr ⊢
      rw [hr]; simp
    rw [e]; exact ⟨rfl, rfl⟩
  · subst e1 e5
    have hr : (mustL l (decide (n ≤ 16))).rt = true := by simpa using h
    have h2 : l.rt = true ∧ n ≤ 16 := by
      simp only [mustL] at hr
      split at hr
      · exact ⟨‹_›, by simpa using hr⟩
      · cases hr
    intro z ez
    have hz : 0 ≤ z ∧ z ≤ 16 ∧ z.toNat = n.toNat := by rw [ez]; split <;> omega
    refine ⟨hz.1, hz.2.1, fun x11 e11 => ⟨hp.2.2.2, rfl, e11, by omega, mustL l (decide (n ≤ 16)), rfl, rfl, lok_must hp _, fun l' e' => ?_⟩⟩
    have e : l' = plainL l n := by
      rw [e', hz.2.2]
      unfold plainL mustL
      simp [h2.1, h2.2]
    rw [e]; exact ⟨rfl, rfl⟩
theorem h58_ok : HOk Try.prog 58 (hbL s58) := hbL_ok fun rest l k h => by
  unfold s58 at h
  split at h
  · exact ⟨_, _, c58 _ _ h.1, rfl, h.2 _ rfl⟩
  · exact h.elim
end GoL
