/- A part of the proof: a logic for programs of this kind, proved sound over the model; contracts of functions; plain laws. -/
import Derived.Test.YtjnagpmhkpkngaaPL
set_option linter.all false
open Go Go.Proofs
namespace GoL
set_option linter.unusedVariables false
set_option linter.unusedSimpArgs false
set_option maxRecDepth 8000
theorem c15H (xs : List V) (h : (∀ v, List.Mem v xs → V.sz v = 3) ∧ xs.length ≤ 1000) : CallH Try.prog 15 [.list false xs] (lkB []) (.agg [.int .i64 7, .int .i64 0, .sl 1002 xs.length]) (lkB [(1002, ⟨some 28, false, .agg xs⟩)]) := by
  refine callH_go (η := []) (ids := [1002]) (ks := [⟨some 28, false, .agg xs⟩]) (hint := none) (Ls := noLs) (Sp := sp15) (hints := noHint) (prs := prsOf []) spNil_ok Try.func15 Try.ntmps15 (by kernel_rfl) (noLoop_ok (by kernel_rfl)) ((n15 xs _ _).mpr ⟨⟨⟨rfl, trivial⟩, h.1, rfl, rfl, 40, rfl, ?_, ?_⟩, fun _ => ⟨rfl, rfl⟩⟩)
  · have := h.2; omega
  · have := h.2; omega
theorem h15_ok : HOk Try.prog 15 h15 := by
  intro hvc rest H1 id k h
  unfold h15 at h
  split at h
  · rename_i xs
    exact ⟨_, _, hsem_new (m := 1002) rfl (fun j hj => by simpa [V.idsB, V.idsBs] using hj) (c15H xs h.1), h.2⟩
  · exact h.elim
theorem sp4_ok : SpOk Try.prog sp4 := shAdd_ok h15_ok (spAdd_ok b14_ok (spAdd_ok b16_ok (spAdd_ok b17_ok (spAdd_ok b18_ok (spAdd_ok b19g_ok (spAdd_ok b20_ok (spAdd_ok b21_ok spNil_ok)))))))
theorem noids_prow (ls : List V) : ∀ k, NoIds (prow ls k)
  | 0 => fun v hv => by cases hv
  | k + 1 => fun v hv => by
    simp only [prow] at hv
    rcases List.mem_append.1 hv with hv | hv
    · exact noids_prow ls k v hv
    · simp at hv
      rcases hv with rfl | rfl <;> rfl
theorem lp4 : LsOk Try.prog 102 1005 [0, 1, 2, 7, 8] [1001, 1002] ent4 (lcode Try.f4 0).2 := by
  intro vs ks K h
  unfold ent4 at h
  split at h
  · rename_i ls tw hw i rows m
    obtain ⟨rfl, rfl, rfl, ht, hle, hK⟩ := h
    have hL := loop_rule (hints := noHint) (Ls := noLs) sp4_ok ends4_0 (γ := Int) (fun i => [.list false ls, .bool tw, .int .i64 hw, .ptr 1002 0 [], .int .i64 i]) (fun i => [⟨some 28, false, .agg (prow ls i.toNat)⟩, ⟨none, false, .agg [.int .i64 7, .int .i64 0, .sl 1001 (prow ls i.toNat).length]⟩]) (fun i => 15 - i.toNat)
      (fun i => 0 ≤ i ∧ i ≤ 15 ∧ i ≤ ls.length) K (c := (lcode Try.f4 0).2) (noLoop_ok (by kernel_rfl)) (fun i hi => by
        obtain ⟨h0, h1, h2⟩ := hi
        refine (nl4_0 ls (prow ls i.toNat) tw hw i _ _ _).mpr ?_
        intro _ x1 hx1 x3 hx3
        subst hx1; subst hx3
        have hlen := prow_len ls i.toNat
        have stop : ¬ (i < (ls.length : Int) ∧ i < 15) → NoIds (prow ls i.toNat) ∧ K (.exit 0) 1005 [(1, .bool tw), (2, .int .i64 hw), (7, .ptr 1002 0 [])] [(1001, ⟨some 28, false, .agg (prow ls i.toNat)⟩), (1002, ⟨none, false, .agg [.int .i64 7, .int .i64 0, .sl 1001 (prow ls i.toNat).length]⟩)] := by
          intro hn
          have e : i.toNat = min 15 ls.length := by omega
          rw [e]
          exact ⟨noids_prow _ _, hK⟩
        refine ⟨fun h3 x6 hx6 => ?_, fun h3 => ?_⟩
        · simp only [decide_eq_true_eq] at h3
          subst hx6
          refine ⟨fun h6 => ?_, fun h6 => ?_⟩
          · simp only [decide_eq_true_eq] at h6
            obtain ⟨n, e⟩ := ty3a (ht _ (getV_mem h0 h3))
            refine ⟨h0, h3, n, e, by decide, fun x10 hx10 => ?_⟩
            have hp := place_in (y := n) (n := 100) (by omega) (by omega)
            have hx : x10 = 1 + place n 100 := by rw [hx10, IntKind.wrap_i64]; omega
            subst hx
            refine ⟨⟨rfl, rfl, ⟨rfl, trivial⟩, fun v hv => ?_, rfl, rfl, 40, rfl, ?_, ?_⟩, fun x15 hx15 => ?_⟩
            · rcases List.mem_cons.1 hv with rfl | hv
              · rfl
              · rcases List.mem_cons.1 hv with rfl | hv
                · rfl
                · cases hv
            · rw [hlen]; show (2 * i.toNat + 2) * 40 ≤ _; omega
            · rw [hlen]; show 2 * i.toNat + 2 ≤ _; omega
            · have hz : x15 = i + 1 := by rw [hx15, IntKind.wrap_i64]; omega
              subst hz
              have e1 : (i + 1).toNat = i.toNat + 1 := by omega
              have e2 : ((i.toNat : Nat) : Int) = i := by omega
              have hta : prow ls i.toNat ++ [V.agg [V.int IntKind.i64 1, V.int IntKind.i64 i, V.list false []], V.agg [V.int IntKind.i64 5, V.int IntKind.i64 (1 + place n 100), V.list false []]] = prow ls (i + 1).toNat := by
                rw [e1]
                simp only [prow, nI, nF, e2, e, intV]
              have hln : (prow ls i.toNat).length + List.length [V.agg [V.int IntKind.i64 1, V.int IntKind.i64 i, V.list false []], V.agg [V.int IntKind.i64 5, V.int IntKind.i64 (1 + place n 100), V.list false []]] = (prow ls (i + 1).toNat).length := by rw [← hta, List.length_append]
              rw [hta, hln]
              refine ⟨noids_prow _ _, i + 1, rfl, rfl, ?_, by omega, by omega, by omega⟩
              show 15 - (i + 1).toNat < 15 - i.toNat
              omega
          · simp only [decide_eq_false_iff_not] at h6
            exact stop (by omega)
        · simp only [decide_eq_false_iff_not] at h3
          exact stop (by omega)) 0 ⟨by omega, by omega, by omega⟩
    exact hL
  · exact h.elim
theorem fin33 {xs : List V} (h : ¬ inO xs) : fitsG 33 (L33 xs) = false := by
  cases e : fitsG 33 (L33 xs) with
  | false => rfl
  | true => exact absurd (f33.1 e).2 h
theorem end33 {xs : List V} (h : ¬ inO xs) : ∀ (x : Bool), x = !fitsG 33 (L33 xs) → (x = true → V.bool true = V.bool true) ∧ (x = false → V.bool true = V.bool false) := by
  intro x hx
  rw [fin33 h] at hx
  subst hx
  exact ⟨fun _ => rfl, fun h => by cases h⟩
theorem c4 (ls : List V) (tw : Bool) (hw : Int) (ht : ∀ u ∈ ls, Typed Try.prog reachBytes 3 u) (hle : ls.length ≤ 9223372036854775807) : CallP Try.prog 4 [.list false ls, .bool tw, .int .i64 hw] (.bool true) := by
  refine call_loops sp4_ok Try.func4 Try.ntmps4 (by kernel_rfl) (loopsOf_ok ?_) ((n4 ls tw hw _).mpr ?_)
  · have e : loopsOf 0 (bodyOf Try.f4) = [lcode Try.f4 0] := by kernel_rfl
    rw [e]
    intro p hp
    simp only [List.mem_cons, List.not_mem_nil, or_false] at hp
    subst hp
    exact lsAdd_hit lp4
  · have hk15 : min 15 ls.length ≤ 15 := by omega
    generalize min 15 ls.length = k at hk15
    have hlen := prow_len ls k
    have hty := prow_ty (ls := ls) hk15
    have hgood : fitsG 33 (L33 (prow ls k)) = true := f33.2 ⟨by omega, good hk15⟩
    have hT := L33ty hty (by omega)
    refine ⟨⟨fun v hv => (by cases hv), by omega⟩, fun v hv => (by cases hv), rfl, rfl, rfl, ht, hle, rfl, fun _ x5 hx5 x7 hx7 => ?_⟩
    subst hx5
    refine ⟨fun _ => ⟨rfl, L33sz _, hT, fun _ => rfl, fun h => by rw [hgood] at h; cases h⟩, fun h7 => ⟨rfl, L33sz _, hT, fun x21 hx21 => ?_⟩⟩
    rw [hgood] at hx21
    subst hx21
    have hk1 : 1 ≤ k := by
      rw [h7, hlen] at hx7
      rcases Nat.eq_zero_or_pos k with rfl | h
      · simp at hx7
      · exact h
    refine ⟨fun h => (by cases h), fun _ => ⟨fun _ => ?_, fun _ => ?_⟩⟩
    · have htt : TyL (prow ls k ++ [V.agg [V.int IntKind.i64 1, V.int IntKind.i64 0, V.list false []], V.agg [V.int IntKind.i64 5, V.int IntKind.i64 9, V.list false []]]) := by
        intro u hu
        rcases List.mem_append.1 hu with hu | hu
        · exact hty u hu
        · simp at hu
          rcases hu with rfl | rfl
          · exact t28mk (by omega) (by omega)
          · exact t28mk (by omega) (by omega)
      refine ⟨⟨rfl, rfl, ⟨rfl, trivial⟩, fun v hv => ?_, rfl, rfl, 40, rfl, ?_, ?_⟩, by simp, L33sz _, L33ty htt (by simp; omega), end33 (bad_twice hk1)⟩
      · rcases List.mem_cons.1 hv with rfl | hv
        · rfl
        · rcases List.mem_cons.1 hv with rfl | hv
          · rfl
          · cases hv
      · rw [hlen]; show (2 * k + 2) * 40 ≤ _; omega
      · rw [hlen]; show 2 * k + 2 ≤ _; omega
    · have one : ∀ (rows' : List V), V.agg rows' = updQ (V.agg [V.int IntKind.i64 5, V.int IntKind.i64 0, V.list false []]) (V.agg (prow ls k)) [1] → rows' = (prow ls k).set 1 (V.agg [V.int IntKind.i64 5, V.int IntKind.i64 0, V.list false []]) := by
        intro rows' h
        have h1 : 1 < (prow ls k).length := by omega
        simp only [updQ, V.upd, List.getElem?_eq_getElem h1] at h
        cases h; rfl
      have hset : ∀ (j : Nat) (t n : Int), (t = 5 ∨ t = 3) → (n = 0 ∨ n = 1) → TyL ((prow ls k).set j (V.agg [V.int IntKind.i64 t, V.int IntKind.i64 n, V.list false []])) := by
        intro j t n h1 h2 u hu
        rcases List.mem_or_eq_of_mem_set hu with hu | rfl
        · exact hty u hu
        · exact t28mk (by omega) (by omega)
      have hsub : ∀ j : Nat, (h : j < (prow ls k).length) → subQ (V.agg (prow ls k)) [j] = some (prow ls k)[j] ∧ V.sz (prow ls k)[j] = 3 := by
        intro j h
        exact ⟨by simp [subQ, V.sub, h], sz28 (hty _ (List.getElem_mem h))⟩
      have hoff : ∀ j : Nat, j < (prow ls k).length → offQ (V.agg (prow ls k)) [j] = j * 3 := by
        intro j h
        have h1 : V.szs ((prow ls k).take j) = ((prow ls k).take j).length * 3 := szs_const fun v hv => sz28 (hty v (List.mem_of_mem_take hv))
        simp only [offQ, V.off, List.getElem?_eq_getElem h, h1, List.length_take]
        omega
      have upd : ∀ (j : Nat) (x : V), (h : j < (prow ls k).length) → V.agg ((prow ls k).set j x) = updQ x (V.agg (prow ls k)) [j] := by
        intro j x h
        simp only [updQ, V.upd, List.getElem?_eq_getElem h]
      have h0l : 0 < (prow ls k).length := by omega
      have h1l : 1 < (prow ls k).length := by omega
      refine ⟨⟨rfl, fun h => by cases h⟩, fun _ x40 hx40 x42 hx42 => ⟨fun _ => ⟨rfl, fun _ x46 hx46 x48 hx48 => ?_⟩, fun _ => ⟨⟨rfl, fun h => by cases h⟩, fun _ x67 hx67 x69 hx69 => ⟨fun _ => ?_, fun _ => ⟨⟨rfl, fun h => by cases h⟩, fun _ x85 hx85 x87 hx87 => ⟨fun _ => ?_, fun _ => ?_⟩⟩⟩⟩⟩⟩
      · subst hx46
        have hx : x48 = ((prow ls k).length : Int) - 1 := by rw [hx48, IntKind.wrap_i64]; omega
        subst hx
        refine ⟨⟨rfl, rfl, trivial, trivial, trivial, fun h => absurd rfl h, by decide, by show (0 : Int) ≤ _; omega, by omega, rfl, fun v hv => sz28 (hty v hv)⟩, fun _ ys hys => ?_⟩
        have hyl : ys.length + 1 = (prow ls k).length := by
          rw [hys, List.length_take, List.length_drop]
          have e1 : (Int.ofNat 0).toNat = 0 := rfl
          have e2 : (((prow ls k).length : Int) - 1 - Int.ofNat 0).toNat = (prow ls k).length - 1 := by show (((prow ls k).length : Int) - 1 - 0).toNat = _; omega
          rw [e1, e2]
          omega
        have htt : TyL ys := fun u hu => hty u (by rw [hys] at hu; exact List.mem_of_mem_drop (List.mem_of_mem_take hu))
        exact ⟨L33sz _, L33ty htt (by omega), end33 (bad_cut hk1 hyl)⟩
      · exact ⟨rfl, by decide, by omega, rfl, rfl, by simp, hoff 1 h1l, ⟨_, (hsub 1 h1l).1, by rw [(hsub 1 h1l).2]; rfl, by rw [(hsub 1 h1l).2]; rfl⟩, _, upd 1 _ h1l, by simp, L33sz _, L33ty (hset 1 5 0 (.inl rfl) (.inl rfl)) (by simp; omega), end33 (bad_one hk1)⟩
      · exact ⟨rfl, by decide, by omega, rfl, rfl, by simp, hoff 1 h1l, ⟨_, (hsub 1 h1l).1, by rw [(hsub 1 h1l).2]; rfl, by rw [(hsub 1 h1l).2]; rfl⟩, _, upd 1 _ h1l, by simp, L33sz _, L33ty (hset 1 5 0 (.inl rfl) (.inl rfl)) (by simp; omega), end33 (bad_one hk1)⟩
      · exact ⟨rfl, by decide, by omega, rfl, rfl, by simp, hoff 0 h0l, ⟨_, (hsub 0 h0l).1, by rw [(hsub 0 h0l).2]; rfl, by rw [(hsub 0 h0l).2]; rfl⟩, _, upd 0 _ h0l, by simp, L33sz _, L33ty (hset 0 3 1 (.inr rfl) (.inr rfl)) (by simp; omega), end33 (bad_zero hk1)⟩
end GoL
