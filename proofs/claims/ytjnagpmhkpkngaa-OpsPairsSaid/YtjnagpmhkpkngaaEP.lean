/- A part of the proof: a logic for programs of this kind, proved sound over the model; contracts of functions; plain laws. -/
import Derived.Test.YtjnagpmhkpkngaaEN
import Derived.Test.YtjnagpmhkpkngaaCP
set_option linter.all false
open Go Go.Proofs
namespace GoL
set_option linter.unusedVariables false
set_option linter.unusedSimpArgs false
set_option maxRecDepth 8000
theorem ids28 {v : V} (h : T28 v) : V.ids v = [] := by
  obtain ⟨t, n, l, rfl, _⟩ := ty28 h
  rfl
theorem few_inv {l : List V} (h : Few l) : l.length ≤ 60 ∧ ∀ u ∈ l, Few (kidsV u) := by
  cases h with
  | mk h1 h2 => exact ⟨h1, h2⟩
theorem lp23 {S : List V → Prop} (hSp : SpOk Try.prog (sp23 S)) {x0 : List V} (ht : ∀ u ∈ x0, T28 u) (hS : ∀ u ∈ x0, S (kidsV u)) (h60 : x0.length ≤ 60) : LsOk Try.prog 20 1000 [0, 3, 4] [] (ent23 x0) (lcode Try.f23 0).2 := by
  intro vs ks K h
  unfold ent23 at h
  split at h
  · rename_i xs i
    obtain ⟨rfl, rfl, hK⟩ := h
    refine TL_own (t := 3) (E := 28) rfl ?_
    have hc : cutK 1001 [0, 3, 4] [1000] (fun vs ks => vs = [.list false xs, .sl 1000 0, .int .i64 0] ∧ ks = [⟨some 28, false, .agg []⟩]) 1001 ((3, .sl 1000 0) :: List.zip [0, 3, 4] [.list false xs, .nils, .int .i64 0]) ((1000, ⟨some 28, false, .agg []⟩) :: List.zip [] []) := ⟨fun v hv => (by cases hv), rfl, rfl⟩
    obtain ⟨vs, ks, ⟨rfl, rfl⟩, hw⟩ := cutK_go hc
    have hL := loop_rule (hints := noHint) (prs := prsOf []) (Ls := noLs) hSp ends23_0 (γ := Int) (fun i => [.list false xs, .sl 1000 (xs.take i.toNat).length, .int .i64 i]) (fun i => [⟨some 28, false, .agg (xs.take i.toNat)⟩]) (fun i => xs.length - i.toNat)
      (fun i => 0 ≤ i ∧ i ≤ xs.length) K (c := (lcode Try.f23 0).2) (noLoop_ok (by kernel_rfl)) (fun i hi => by
        obtain ⟨h0, h1⟩ := hi
        refine (nl23_0 S xs (xs.take i.toNat) i _ _ _).mpr ?_
        intro hl y hy x hx; subst hy hx
        have hno : ∀ k, NoIds (xs.take k) := fun k v hv => ids28 (ht v (List.mem_of_mem_take hv))
        refine ⟨fun h3 => ?_, fun h3 => ?_⟩
        · simp only [decide_eq_true_eq] at h3
          have hmem := getV_mem h0 h3
          obtain ⟨t, n, l, e, htl⟩ := ty28 (ht _ hmem)
          have hSl : S l := by have := hS _ hmem; rw [e] at this; exact this
          have hlt : (xs.take i.toNat).length ≤ 60 := by rw [List.length_take]; omega
          refine ⟨h0, h3, t, n, l, e, hSl, ⟨rfl, rfl, ⟨rfl, trivial⟩, fun v hv => ?_, rfl, rfl, 40, rfl, ?_, ?_⟩, fun _ z hz => ?_⟩
          · cases hv with
            | head => rfl
            | tail _ h => cases h
          · show ((xs.take i.toNat).length + 1) * 40 ≤ 140737488355328
            omega
          · show (xs.take i.toNat).length + 1 ≤ 9223372036854775807
            omega
          · have hz' : z = i + 1 := by rw [hz, IntKind.wrap_i64]; omega
            subst hz'
            have hb : i.toNat < xs.length := by omega
            have hta : xs.take i.toNat ++ [V.agg [V.int IntKind.i64 t, V.int IntKind.i64 n, V.list false l]] = xs.take (i + 1).toNat := by
              have e1 : (i + 1).toNat = i.toNat + 1 := by omega
              rw [← e, e1, List.take_succ, List.getElem?_eq_getElem hb]
              unfold getV
              rw [List.getD_eq_getElem?_getD, List.getElem?_eq_getElem hb]
              rfl
            have hln : (xs.take i.toNat).length + List.length [V.agg [V.int IntKind.i64 t, V.int IntKind.i64 n, V.list false l]] = (xs.take (i + 1).toNat).length := by rw [← hta, List.length_append]
            rw [hta, hln]
            refine ⟨hno _, i + 1, rfl, rfl, ?_, by omega, by omega⟩
            show xs.length - (i + 1).toNat < xs.length - i.toNat
            omega
        · simp only [decide_eq_false_iff_not] at h3
          have hxs : xs.take i.toNat = xs := List.take_of_length_le (by omega)
          refine ⟨hno _, ?_⟩
          rw [hxs]
          exact hK) 0 ⟨by omega, by omega⟩
    exact hL.weak hw
  · exact h.elim
theorem args_any : ∀ (N : Nat) (xs : List V), sizeOf xs ≤ N → TyL xs → Few xs → CallP Try.prog 23 [.list false xs] (.list false xs) := by
  intro N
  induction N with
  | zero => intro xs h; cases xs <;> simp at h
  | succ N ih =>
    intro xs hs ht hf
    have hSp31 : SpOk Try.prog (sp31 fun l => sizeOf l ≤ N ∧ TyL l ∧ Few l) := by
      refine spAdd_ok (fun args k h => ?_) spNil_ok
      unfold b23 at h
      split at h
      · exact ⟨_, ih _ h.1.1 h.1.2.1 h.1.2.2, h.2⟩
      · exact h.elim
    have hSp23 : SpOk Try.prog (sp23 fun l => sizeOf l ≤ N ∧ TyL l ∧ Few l) := by
      refine spAdd_ok (fun args k h => ?_) spNil_ok
      unfold b31 at h
      split at h
      · rename_i k t n l
        exact ⟨_, call_plain hSp31 Try.func31 Try.ntmps31 (by kernel_rfl) ((n31 _ t n l _).mpr ⟨h.1, rfl⟩), h.2⟩
      · exact h.elim
    have hS : ∀ u ∈ xs, sizeOf (kidsV u) ≤ N ∧ TyL (kidsV u) ∧ Few (kidsV u) := by
      intro u hu
      have h1 := List.sizeOf_lt_of_mem hu
      have h2 := kids_size (ht u hu)
      exact ⟨by omega, kids_ty (ht u hu), (few_inv hf).2 u hu⟩
    refine call_loops hSp23 Try.func23 Try.ntmps23 (by kernel_rfl) (loopsOf_ok ?_) ((n23 _ xs xs _).mpr ⟨rfl, rfl, rfl, rfl⟩)
    have e : loopsOf 0 (bodyOf Try.f23) = [lcode Try.f23 0] := by kernel_rfl
    rw [e]
    intro p hp
    simp only [List.mem_cons, List.not_mem_nil, or_false] at hp
    subst hp
    exact lsAdd_hit (lp23 hSp23 ht hS (few_inv hf).1)
theorem b23_ok (args : List V) (k : V → Prop) (h : b23 (fun l => TyL l ∧ Few l) args k) : ∃ r, CallP Try.prog 23 args r ∧ k r := by
  unfold b23 at h
  split at h
  · exact ⟨_, args_any _ _ (Nat.le_refl _) h.1.1 h.1.2, h.2⟩
  · exact h.elim
end GoL
