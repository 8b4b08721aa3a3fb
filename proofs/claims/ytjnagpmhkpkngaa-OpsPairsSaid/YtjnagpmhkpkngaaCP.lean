/- A part of the proof: a logic for programs of this kind, proved sound over the model; contracts of functions; plain laws. -/
import Derived.Test.YtjnagpmhkpkngaaCN
import Derived.Test.YtjnagpmhkpkngaaBL
set_option linter.all false
open Go Go.Proofs
namespace GoL
set_option linter.unusedVariables false
set_option linter.unusedSimpArgs false
set_option maxRecDepth 8000
theorem b19g_ok (args : List V) (k : V → Prop) (h : b19g args k) : ∃ r, CallP Try.prog 19 args r ∧ k r := by
  unfold b19g at h
  split at h
  · exact ⟨_, c19g _ _ h.1, h.2⟩
  · exact h.elim
theorem b24_ok (args : List V) (k : V → Prop) (h : b24 args k) : ∃ r, CallP Try.prog 24 args r ∧ k r := by
  unfold b24 at h
  split at h
  · exact ⟨_, c24 _ _ h.1, h.2⟩
  · exact h.elim
theorem sp25g_ok : SpOk Try.prog sp25g := spAdd_ok b19g_ok spNil_ok
theorem sp26_ok : SpOk Try.prog sp26 := spAdd_ok b24_ok spNil_ok
theorem fitsG_len {op : Int} {xs : List V} (h : fitsG op xs = true) : xs.length = (sigS op).length := by
  unfold fitsG at h
  split at h
  · cases h
  · split at h
    · cases h
    · split at h
      · cases h
      · rename_i h3
        have h4 : (xs.length : Int) = ((sigS op).length : Int) := by simpa using h3
        omega
theorem hdG {op : Int} {xs : List V} {c : UInt8} {r : List UInt8} (hs : sigS op = c :: r) (ht : ∀ u ∈ xs, T28 u) (h : fitsG op xs = true) : 0 < (xs.length : Int) ∧ ∃ (t n : Int) (l : List V), getV xs 0 = V.agg [V.int IntKind.i64 t, V.int IntKind.i64 n, V.list false l] := by
  have hl := fitsG_len h
  rw [hs] at hl
  have h0 : (0 : Int) < (xs.length : Int) := by rw [hl]; simp only [List.length_cons]; omega
  obtain ⟨t, n, l, e, _⟩ := ty28 (ht _ (getV_mem (Int.le_refl 0) h0))
  exact ⟨h0, t, n, l, e⟩
theorem c25g (op : Int) (xs : List V) (ht : ∀ u ∈ xs, T28 u) : CallP Try.prog 25 [.agg [.int .i64 op, .list false xs]] (.bool (thr (fitsG op xs) op xs)) := by
  refine call_plain sp25g_ok Try.func25 Try.ntmps25 (by kernel_rfl) ((n25g op xs _).mpr ⟨ht, ?_⟩)
  intro x hx
  subst hx
  refine ⟨fun h => by simp only [thr, h, if_true], fun h0 => ?_⟩
  have hft : fitsG op xs = true := by simpa using h0
  have key : ∀ (c : UInt8) (r : List UInt8), sigS op = c :: r → 0 < (xs.length : Int) ∧ ∃ (t n : Int) (l : List V), getV xs 0 = V.agg [V.int IntKind.i64 t, V.int IntKind.i64 n, V.list false l] := fun c r hs => hdG hs ht hft
  clear hft
  (repeat' (first | (refine And.intro ?_ ?_) | (intro x hx; subst hx) | (intro _)))
  all_goals first
    | decide
    | (simp only [thr, *, Bool.not_true, Bool.not_false, if_true, if_false, Bool.false_eq_true, ↓reduceIte]; done)
    | (rename_i ho; exact (key 102 _ (by rw [eq_of_beq ho]; rfl)).1)
    | (rename_i ho; obtain ⟨_, t, n, l, e⟩ := key 102 _ (by rw [eq_of_beq ho]; rfl); exact ⟨t, n, l, e, fun x hx => by subst hx; simp only [thr, N0, e, *, Bool.not_true, Bool.not_false, if_true, if_false, Bool.false_eq_true, ↓reduceIte]⟩)
    | skip
theorem b25g_ok (args : List V) (k : V → Prop) (h : b25g args k) : ∃ r, CallP Try.prog 25 args r ∧ k r := by
  unfold b25g at h
  split at h
  · exact ⟨_, c25g _ _ h.1, h.2⟩
  · exact h.elim
theorem c26 (op : Int) (xs : List V) (ht : ∀ u ∈ xs, T28 u) : CallP Try.prog 26 [.agg [.int .i64 op, .list false xs]] (.bool (thr (fitsR op xs) op xs)) := by
  refine call_plain sp26_ok Try.func26 Try.ntmps26 (by kernel_rfl) ((n26 op xs _).mpr ⟨ht, ?_⟩)
  intro x hx
  subst hx
  refine ⟨fun h => by simp only [thr, h, if_true], fun h0 => ?_⟩
  have hft : fitsG op xs = true := by rw [fits_eq]; simpa using h0
  have key : ∀ (c : UInt8) (r : List UInt8), sigS op = c :: r → 0 < (xs.length : Int) ∧ ∃ (t n : Int) (l : List V), getV xs 0 = V.agg [V.int IntKind.i64 t, V.int IntKind.i64 n, V.list false l] := fun c r hs => hdG hs ht hft
  clear hft
  (repeat' (first | (refine And.intro ?_ ?_) | (intro x hx; subst hx) | (intro _)))
  all_goals first
    | decide
    | (simp only [thr, *, Bool.not_true, Bool.not_false, if_true, if_false, Bool.false_eq_true, ↓reduceIte]; done)
    | (rename_i ho; exact (key 102 _ (by rw [eq_of_beq ho]; rfl)).1)
    | (rename_i ho; obtain ⟨_, t, n, l, e⟩ := key 102 _ (by rw [eq_of_beq ho]; rfl); exact ⟨t, n, l, e, fun x hx => by subst hx; simp only [thr, N0, e, *, Bool.not_true, Bool.not_false, if_true, if_false, Bool.false_eq_true, ↓reduceIte]⟩)
    | skip
theorem b26_ok (args : List V) (k : V → Prop) (h : b26 args k) : ∃ r, CallP Try.prog 26 args r ∧ k r := by
  unfold b26 at h
  split at h
  · exact ⟨_, c26 _ _ h.1, h.2⟩
  · exact h.elim
theorem c10g (op : Int) : CallP Try.prog 10 [.int .i64 op] (.str (name9 op)) := by
  by_cases h : -2 ≤ op ∧ op ≤ 54
  · exact c10 op h.1 h.2
  have h9 : name9 op = [] := by
    unfold name9
    by_cases h1 : op < 1
    · simp [h1]
    · have : op > 51 := by omega
      simp [h1, this]
  rw [h9]
  refine call_plain (hint := none) (N := 14) (fn := Try.f10) (args := [.int .i64 op]) (r := .str []) (Sp := sp10) (hints := hintOf [(4002, 1)]) (prs := prsOf []) spNil_ok Try.func10 Try.ntmps10 (by kernel_rfl) ?_
  rw [n10g]
  intro x hx
  subst hx
  refine ⟨fun _ => rfl, fun h1 x hx => ?_⟩
  subst hx
  refine ⟨fun _ => rfl, fun h2 => ?_⟩
  exfalso
  simp only [decide_eq_false_iff_not] at h1 h2
  omega
theorem b10g_ok (args : List V) (k : V → Prop) (h : b10g args k) : ∃ r, CallP Try.prog 10 args r ∧ k r := by
  unfold b10g at h
  split at h
  · exact ⟨_, c10g _, h⟩
  · exact h.elim
theorem sig_all (op : Int) : sigS op = sig9 op := by
  by_cases h : -2 ≤ op ∧ op ≤ 54
  · have := sigT h
    simpa using this
  · have h9 : sig9 op = [] := by
      unfold sig9
      by_cases h1 : op < 1
      · simp [h1]
      · have : op > 51 := by omega
        simp [h1, this]
    rw [h9]
    unfold sigS
    repeat rw [if_neg (by simp only [beq_iff_eq]; omega)]
theorem lp22 {S : List V → Prop} (hSp : SpOk Try.prog (sp22 S)) {l0 : List V} (ht : ∀ u ∈ l0, T28 u) (hS : ∀ u ∈ l0, S (kidsV u)) : LsOk Try.prog 37 1000 [0, 1, 5] [] (ent22 l0) (lcode Try.f22 0).2 := by
  intro vs ks K h
  unfold ent22 at h
  split at h
  · rename_i ls d i
    obtain ⟨rfl, rfl, hK1, hK2⟩ := h
    refine loop_rule (hints := noHint) (prs := prsOf []) (Ls := noLs) hSp ends22_0 (γ := Int) (fun i => [.list false ls, .int .i64 d, .int .i64 i]) (fun _ => []) (fun i => ls.length - i.toNat)
      (fun i => 0 ≤ i ∧ (AllS (fewP ls d) ls.length 1 i → K (.exit 0) 1000 [] []) ∧ (¬ AllS (fewP ls d) ls.length 1 i → K .ret 1000 [(4, .gd true (.bool false))] [])) K (noLoop_ok (by kernel_rfl)) ?_ 0 ⟨by omega, hK1, hK2⟩
    rintro i ⟨h0, h1, h2⟩
    refine (nl22_0 S ls d i _ _ _).mpr ?_
    intro hl y hy x hx; subst hy hx
    refine ⟨fun h3 => ?_, fun h3 => ?_⟩
    · simp only [decide_eq_true_eq] at h3
      have hmem := getV_mem h0 h3
      obtain ⟨t, n, l, e, htl⟩ := ty28 (ht _ hmem)
      have hSl : S l := by have := hS _ hmem; rw [e] at this; exact this
      have hs := AllS_step (p := fewP ls d) (d := 1) h3
      have hp : fewP ls d i ↔ (l.length > 0 → fewV l (IntKind.i64.wrap (d - 1)) = true) := by
        unfold fewP; rw [e]; exact Iff.rfl
      have hw : ∀ z : Int, z = IntKind.i64.wrap (i + 1) → z = i + 1 := fun z hz => by rw [hz, IntKind.wrap_i64]; omega
      have hm : ls.length - (i + 1).toNat < ls.length - i.toNat := by omega
      refine ⟨h0, h3, t, n, l, e, fun hll y hy x hx => ?_⟩
      subst hy hx
      refine ⟨fun h4 => ⟨h0, h3, t, n, l, e, fun w hw2 => ?_⟩, fun h4 z hz => ?_⟩
      · subst hw2
        refine ⟨hSl, fun v hv => ⟨fun h5 => ?_, fun h5 z hz => ?_⟩⟩
        · exact h2 fun hA => by
            have := hp.1 (hs.1 hA).1 (by simp only [decide_eq_true_eq] at h4; omega)
            rw [hv, this] at h5; cases h5
        · have hpi : fewP ls d i := hp.2 fun _ => by rw [hv] at h5; simpa using h5
          rw [hw z hz]
          exact ⟨i + 1, rfl, rfl, hm, by omega, fun hA => h1 (hs.2 ⟨hpi, hA⟩), fun hA => h2 fun hB => hA (hs.1 hB).2⟩
      · have hpi : fewP ls d i := hp.2 fun h => by simp only [decide_eq_false_iff_not] at h4; omega
        rw [hw z hz]
        exact ⟨i + 1, rfl, rfl, hm, by omega, fun hA => h1 (hs.2 ⟨hpi, hA⟩), fun hA => h2 fun hB => hA (hs.1 hB).2⟩
    · simp only [decide_eq_false_iff_not] at h3
      exact h1 (AllS_stop (by omega) (by omega))
  · exact h.elim
theorem kids_size {u : V} (h : T28 u) : sizeOf (kidsV u) < sizeOf u := by
  obtain ⟨t, n, l, rfl, _⟩ := ty28 h
  show sizeOf l < _
  simp
  omega
theorem kids_ty {u : V} (h : T28 u) : ∀ w ∈ kidsV u, T28 w := by
  obtain ⟨t, n, l, rfl, hl⟩ := ty28 h
  exact hl
theorem few_any : ∀ (N : Nat) (ls : List V), sizeOf ls ≤ N → (∀ u ∈ ls, T28 u) → ∀ d : Int, ∃ b, CallP Try.prog 22 [.list false ls, .int .i64 d] (.bool b) ∧ (b = true → Few ls) := by
  intro N
  induction N with
  | zero => intro ls h; cases ls <;> simp at h
  | succ N ih =>
    intro ls hs ht d
    have hSp : SpOk Try.prog (sp22 fun l => sizeOf l ≤ N ∧ ∀ u ∈ l, T28 u) := by
      refine spAdd_ok (fun args k h => ?_) spNil_ok
      unfold b22 at h
      split at h
      · rename_i k l d
        obtain ⟨⟨h1, h2⟩, h3⟩ := h
        exact ⟨_, (Classical.epsilon_spec (p := fun b => CallP Try.prog 22 [.list false l, .int .i64 d] (.bool b) ∧ (b = true → Few l)) (ih l h1 h2 d)).1, h3⟩
      · exact h.elim
    have hS : ∀ u ∈ ls, sizeOf (kidsV u) ≤ N ∧ ∀ w ∈ kidsV u, T28 w := by
      intro u hu
      have h1 := List.sizeOf_lt_of_mem hu
      have h2 := kids_size (ht u hu)
      exact ⟨by omega, kids_ty (ht u hu)⟩
    refine ⟨if decide ((ls.length : Int) > 60) then false else if decide (d < 0) then false else dec (AllS (fewP ls d) ls.length 1 0), ?_, fun h => ?_⟩
    · refine call_loops hSp Try.func22 Try.ntmps22 (by kernel_rfl) (loopsOf_ok ?_) ((n22 _ ls ls d _).mpr ?_)
      · have e : loopsOf 0 (bodyOf Try.f22) = [lcode Try.f22 0] := by kernel_rfl
        rw [e]
        intro p hp
        simp only [List.mem_cons, List.not_mem_nil, or_false] at hp
        subst hp
        exact lsAdd_hit (lp22 hSp ht hS)
      · intro hl y hy x hx
        subst hy hx
        refine ⟨fun h => by simp only [h, if_true], fun h x hx => ?_⟩
        subst hx
        refine ⟨fun h2 => by simp only [h, h2, if_true, if_false, Bool.false_eq_true], fun h2 => ⟨rfl, rfl, fun hA => ?_, fun hA => ?_⟩⟩
        · simp only [h, h2, dec_true hA, if_true, if_false, Bool.false_eq_true]
        · simp only [h, h2, dec_false hA, if_true, if_false, Bool.false_eq_true]
    · split at h
      · cases h
      · rename_i h6
        split at h
        · cases h
        · have hA := dec_iff.1 h
          rw [all_one] at hA
          refine .mk (by simp only [decide_eq_true_eq] at h6; omega) fun u hu => ?_
          obtain ⟨j, hj, rfl⟩ := List.getElem_of_mem hu
          have hg : getV ls (j : Int) = ls[j] := by
            unfold getV
            rw [List.getD_eq_getElem?_getD, Int.toNat_natCast, List.getElem?_eq_getElem hj]
            rfl
          have := hA (j : Int) (by omega) (by omega)
          unfold fewP at this
          rw [hg] at this
          by_cases h0 : (kidsV ls[j]).length > 0
          · have h9 := this h0
            have hSu := hS _ hu
            exact (Classical.epsilon_spec (p := fun b => CallP Try.prog 22 [.list false (kidsV ls[j]), .int .i64 (IntKind.i64.wrap (d - 1))] (.bool b) ∧ (b = true → Few (kidsV ls[j]))) (ih _ hSu.1 hSu.2 _)).2 h9
          · have h1 : kidsV ls[j] = [] := List.eq_nil_of_length_eq_zero (by omega)
            rw [h1]
            exact .mk (by simp) (fun u hu => by cases hu)
theorem b22_ok (args : List V) (k : V → Prop) (h : b22 (fun l => ∀ u ∈ l, T28 u) args k) : ∃ r, CallP Try.prog 22 args r ∧ k r := by
  unfold b22 at h
  split at h
  · rename_i k l d
    exact ⟨_, (Classical.epsilon_spec (p := fun b => CallP Try.prog 22 [.list false l, .int .i64 d] (.bool b) ∧ (b = true → Few l)) (few_any _ l (Nat.le_refl _) h.1 d)).1, h.2⟩
  · exact h.elim
theorem few_of {l : List V} {d : Int} (ht : ∀ u ∈ l, T28 u) (h : fewV l d = true) : Few l := (Classical.epsilon_spec (p := fun b => CallP Try.prog 22 [.list false l, .int .i64 d] (.bool b) ∧ (b = true → Few l)) (few_any _ l (Nat.le_refl _) ht d)).2 h
end GoL
