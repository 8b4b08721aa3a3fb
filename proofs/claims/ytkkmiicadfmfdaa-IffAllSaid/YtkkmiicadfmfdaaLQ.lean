/- A part of the proof: a logic for programs of this kind, proved sound over the model; contracts of functions; plain laws. -/
import Derived.Test.YtkkmiicadfmfdaaLP
set_option linter.all false
open Go Go.Proofs
namespace GoL
set_option linter.unusedVariables false
set_option linter.unusedSimpArgs false
set_option maxRecDepth 8000
theorem hd_bl (n : Int) : BLs (mkHd n) := by
  refine BLs_app (BLs_app (fun v hv => ?_) (BLs_four n)) (fun v hv => ?_)
  · simp only [List.mem_cons, List.not_mem_nil, or_false] at hv
    rcases hv with rfl | rfl | rfl | rfl <;> exact isByte_int (by omega) (by omega)
  · simp only [List.mem_cons, List.not_mem_nil, or_false] at hv
    rcases hv with rfl | rfl | rfl | rfl <;> exact isByte_int (by omega) (by omega)
theorem h4_bl : BLs [.int .u8 70, .int .u8 79, .int .u8 82, .int .u8 49] := fun v hv => by
  simp only [List.mem_cons, List.not_mem_nil, or_false] at hv
  rcases hv with rfl | rfl | rfl | rfl <;> exact isByte_int (by omega) (by omega)
theorem b4_bl : BLs [.int .u8 66, .int .u8 69, .int .u8 65, .int .u8 77] := fun v hv => by
  simp only [List.mem_cons, List.not_mem_nil, or_false] at hv
  rcases hv with rfl | rfl | rfl | rfl <;> exact isByte_int (by omega) (by omega)
theorem c10s (ls : List V) (hf : FitC ls) (he : mkErrR [] ls = 0) (h65 : 12 + sumC ls ≤ 65536) : CallH Try.prog 10 [.list false ls] (lkB []) (.tup [.sl 1008 (mkS ls).length, .int .i64 0]) (lkB [(1008, ⟨some 5, false, .agg (mkS ls)⟩)]) := by
  refine callH_go (η := []) (ids := [1008]) (ks := [⟨some 5, false, .agg (mkS ls)⟩]) (hint := none) sp10_ok Try.func10 Try.ntmps10 (by kernel_rfl) (loopsOf_ok ?_) ((n10s ls _ _).mpr ?_)
  · have e : loopsOf 0 (bodyOf Try.f10) = [lcode Try.f10 0, lcode Try.f10 1] := by kernel_rfl
    rw [e]
    intro p hp
    simp only [List.mem_cons, List.not_mem_nil, or_false] at hp
    rcases hp with rfl | rfl
    · exact lsAdd_hit lp10_0
    · exact lsAdd_miss (by kernel_rfl) (lsAdd_hit lp10_1)
  · intro hl x1 h1
    refine ⟨rfl, rfl, h1, rfl, hf, fun _ x4 h4 => ⟨fun h => ?_, fun _ => ⟨⟨rfl, rfl, by omega⟩, fun _ x9 h9 => ?_⟩⟩, fun h => h he⟩
    · rw [h] at h4
      have := of_decide_eq_true h4.symm
      omega
    · have hr := sumC_rng ls hf.2.2
      have hl2 := hf.2.1
      have h9' : x9 = 4 + sumC ls := by rw [h9, IntKind.wrap_i64]; omega
      subst h9'
      exact ⟨⟨rfl, h4_bl, by show 4 ≤ _; omega⟩, ⟨rfl, rfl, ⟨rfl, trivial⟩, sz_byte b4_bl, rfl, rfl, 1, rfl, by show 12 * 1 ≤ _; omega, by show 12 ≤ _; omega⟩, fun _ _ x16 h16 => ⟨BLs_noids (hd_bl _), rfl, h16, rfl, hf, fun u hu => named_len (mkErr_named _ _ he u hu), by omega, hd_bl _, rfl, rfl, rfl⟩⟩
theorem c10f (ls : List V) (hf : FitC ls) (he : mkE ls ≠ 0) : CallH Try.prog 10 [.list false ls] (lkB []) (.tup [.nils, .int .i64 (mkE ls)]) (lkB []) := by
  refine callH_go (η := []) (ids := []) (ks := []) (hint := none) sp10_ok Try.func10 Try.ntmps10 (by kernel_rfl) (loopsOf_ok ?_) ((n10f ls _ _).mpr ?_)
  · have e : loopsOf 0 (bodyOf Try.f10) = [lcode Try.f10 0, lcode Try.f10 1] := by kernel_rfl
    rw [e]
    intro p hp
    simp only [List.mem_cons, List.not_mem_nil, or_false] at hp
    rcases hp with rfl | rfl
    · exact lsAdd_hit lp10_0
    · exact lsAdd_miss (by kernel_rfl) (lsAdd_hit lp10_1)
  · intro hl x1 h1
    unfold mkE at he ⊢
    refine ⟨rfl, rfl, h1, rfl, hf, fun h0 x4 h4 => ?_, fun h => ?_⟩
    · simp only [h0, if_true] at he ⊢
      have hbig : 12 + sumC ls > 65536 := by
        rcases Int.lt_or_le 65536 (12 + sumC ls) with h | h
        · exact h
        · simp [show ¬ 12 + sumC ls > 65536 by omega] at he
      rw [if_pos hbig]
      have h4' : x4 = true := by rw [h4]; exact decide_eq_true hbig
      subst h4'
      exact ⟨fun _ => (by refine ⟨?_, ?_⟩ <;> first | rfl | trivial), fun h => by cases h⟩
    · rw [if_neg h]
      refine ⟨?_, ?_⟩ <;> first | rfl | trivial
theorem h10_ok : HOk Try.prog 10 h10 := by
  intro hvc rest H1 id k h
  unfold h10 at h
  split at h
  · rename_i ls
    obtain ⟨hf, h1, h2⟩ := h
    by_cases he : mkE ls = 0
    · have h0 : mkErrR [] ls = 0 := by
        unfold mkE at he
        by_cases h0 : mkErrR [] ls = 0
        · exact h0
        · rw [if_neg h0] at he; exact absurd he h0
      have h65 : 12 + sumC ls ≤ 65536 := by
        unfold mkE at he
        simp only [h0, if_true] at he
        by_cases h : 12 + sumC ls > 65536
        · simp [h] at he
        · omega
      exact ⟨_, _, hsem_new (m := 1008) rfl (fun j hj => by simpa [V.idsB, V.idsBs] using hj) (c10s ls hf h0 h65), h1 he _ rfl⟩
    · exact ⟨_, _, hsem_none rfl (c10f ls hf he), h2 _ rfl he⟩
  · exact h.elim
theorem lp8 : LsOk Try.prog 33 1000 [0, 3] [] ent8 (lcode Try.f8 0).2 := by
  intro vs ks K h
  unfold ent8 at h
  split at h
  · rename_i ls i
    obtain ⟨rfl, hc, hK, hK2⟩ := h
    refine loop_rule (hints := noHint) (prs := prsOf []) (Ls := noLs) (Sp := sp8) spNil_ok ends8_0 (γ := Int) (fun i => [.list false ls, .int .i64 i]) (fun _ => []) (fun i => ls.length - i.toNat)
      (fun i => 0 ≤ i ∧ i ≤ ls.length ∧ ∀ j : Int, 0 ≤ j → j < i → j < 12 → okC (getV ls j)) K (noLoop_ok (by kernel_rfl)) ?_ 0 ⟨by omega, by omega, fun j h1 h2 => by omega⟩
    rintro i ⟨h0, h1, h2⟩
    refine (nl8_0 ls i _ _ _).mpr ?_
    intro _ x1 hx1 x3 hx3; subst hx1; subst hx3
    have stop : ¬ (i < (ls.length : Int) ∧ i < 12) → K (.exit 0) 1000 [(0, .list false ls)] [] := fun hn => hK fun j j0 j1 j2 => h2 j j0 (by omega) j2
    refine ⟨fun h3 x6 hx6 => ?_, fun h3 => stop fun h => by simp [h.1] at h3⟩
    simp only [decide_eq_true_eq] at h3
    subst hx6
    refine ⟨fun h6 => ?_, fun h6 => stop fun h => by simp [h.2] at h6⟩
    simp only [decide_eq_true_eq] at h6
    obtain ⟨n, d, g1, g2, g3⟩ := hc.at h0 h3
    refine ⟨h0, h3, n, d, g1, fun _ x12 h12 x14 h14 => ⟨fun h15 => hK2 fun hA => ?_, fun h15 => ⟨h0, h3, n, d, g1, fun _ x21 h21 x23 h23 => ⟨fun h24 => hK2 fun hA => ?_, fun h24 z hz => ?_⟩⟩⟩⟩
    · have := (hA i h0 h3 h6).1
      rw [g3] at this
      rw [h14, h12] at h15
      exact this (of_decide_eq_true h15)
    · have := (hA i h0 h3 h6).2
      rw [g2] at this
      rw [h23, h21] at h24
      exact this (of_decide_eq_true h24)
    · have hz' : z = i + 1 := by rw [hz, IntKind.wrap_i64]; omega
      subst hz'
      refine ⟨i + 1, rfl, rfl, ?_, by omega, by omega, fun j j0 j1 j2 => ?_⟩
      · show ls.length - (i + 1).toNat < ls.length - i.toNat
        omega
      · by_cases e : j = i
        · subst e
          refine ⟨?_, ?_⟩
          · rw [g3]; rw [h14, h12] at h15; exact of_decide_eq_false h15
          · rw [g2]; rw [h23, h21] at h24; exact of_decide_eq_false h24
        · exact h2 j j0 (by omega) j2
  · exact h.elim
theorem c8 (ls : List V) (hc : CLs ls) : CallP Try.prog 8 [.list false ls] (.bool (decJ (fewP ls))) := by
  refine call_loops (Sp := sp8) spNil_ok Try.func8 Try.ntmps8 (by kernel_rfl) (loopsOf_ok ?_) ((n8 ls _).mpr ?_)
  · have e : loopsOf 0 (bodyOf Try.f8) = [lcode Try.f8 0] := by kernel_rfl
    rw [e]
    intro p hp
    simp only [List.mem_cons, List.not_mem_nil, or_false] at hp
    subst hp
    exact lsAdd_hit lp8
  · refine ⟨rfl, hc, fun hA hl x6 h6 x8 h8 => ?_, fun hA => ?_⟩
    · subst h6
      by_cases h12 : ls.length ≤ 12
      · have : x8 = true := by rw [h8, decide_eq_true_eq]; omega
        rw [this, decJ_true]
        refine ⟨h12, fun u hu => ?_⟩
        obtain ⟨j, hj, rfl⟩ := List.getElem_of_mem hu
        rw [← getVn hj]
        exact hA _ (by omega) (by omega) (by omega)
      · have : x8 = false := by rw [h8, decide_eq_false_iff_not]; omega
        rw [this, decJ_false]
        exact fun h => h12 h.1
    · rw [decJ_false]
      intro h
      exact hA fun j j0 j1 _ => h.2 _ (by
        have e : ((j.toNat : Nat) : Int) = j := by omega
        have := getVn (ls := ls) (i := j.toNat) (by omega)
        rw [e] at this
        rw [this]
        exact List.getElem_mem _)
theorem b8_ok (args : List V) (k : V → Prop) (h : b8 args k) : ∃ r, CallP Try.prog 8 args r ∧ k r := by
  unfold b8 at h
  split at h
  · exact ⟨_, c8 _ h.1, h.2⟩
  · exact h.elim
theorem lp12 : LsOk Try.prog 41 1000 [0, 1, 5] [] ent12 (lcode Try.f12 0).2 := by
  intro vs ks K h
  unfold ent12 at h
  split at h
  · rename_i xs ys i
    obtain ⟨rfl, hx, hy, hl, hK, hK2⟩ := h
    refine loop_rule (hints := noHint) (prs := (prsOf [(6, [[], [], [0, 1], [2, 0, 1], [3, 2, 0, 1], [], [], [5, 6], [7, 5, 6], [8, 7, 5, 6], [4, 3, 2, 0, 1, 9, 8, 7, 5, 6], [10, 4, 3, 2, 0, 1, 9, 8, 7, 5, 6], [11, 10, 4, 3, 2, 0, 1, 9, 8, 7, 5, 6], [11, 10, 4, 3, 2, 0, 1, 9, 8, 7, 5, 6], [12, 11, 10, 4, 3, 2, 0, 1, 9, 8, 7, 5, 6, 13], [14, 12, 11, 10, 4, 3, 2, 0, 1, 9, 8, 7, 5, 6, 13], [15, 14, 12, 11, 10, 4, 3, 2, 0, 1, 9, 8, 7, 5, 6, 13], [11, 10, 4, 3, 2, 0, 1, 9, 8, 7, 5, 6], [11, 10, 4, 3, 2, 0, 1, 9, 8, 7, 5, 6], [17, 11, 10, 4, 3, 2, 0, 1, 9, 8, 7, 5, 6, 18], [19, 17, 11, 10, 4, 3, 2, 0, 1, 9, 8, 7, 5, 6, 18], [20, 19, 17, 11, 10, 4, 3, 2, 0, 1, 9, 8, 7, 5, 6, 18], [16, 15, 14, 12, 11, 10, 4, 3, 2, 0, 1, 9, 8, 7, 5, 6, 13, 21, 20, 19, 17, 18], [11, 10, 4, 3, 2, 0, 1, 9, 8, 7, 5, 6, 22, 16, 15, 14, 12, 13, 21, 20, 19, 17, 18]])])) (Ls := noLs) (Sp := sp12) spNil_ok ends12_0 (γ := Int) (fun i => [.list false xs, .list false ys, .int .i64 i]) (fun _ => []) (fun i => xs.length - i.toNat)
      (fun i => 0 ≤ i ∧ i ≤ xs.length ∧ xs.take i.toNat = ys.take i.toNat) K (noLoop_ok (by kernel_rfl)) ?_ 0 ⟨by omega, by omega, rfl⟩
    rintro i ⟨h0, h1, h2⟩
    refine (nl12_0 xs ys i _ _ _).mpr ?_
    intro _ x1 hx1 x3 hx3; subst hx1; subst hx3
    refine ⟨fun h3 => ?_, fun h3 => ?_⟩
    · simp only [decide_eq_true_eq] at h3
      have hi : i.toNat < xs.length := by omega
      have hi' : i.toNat < ys.length := by omega
      have e1 : (i + 1).toNat = i.toNat + 1 := by omega
      have ei : ((i.toNat : Nat) : Int) = i := by omega
      obtain ⟨n, d, g1, g2, g3⟩ := hx.at h0 h3
      obtain ⟨n', d', g1', g2', g3'⟩ := hy.at h0 (by omega : i < ys.length)
      have hg := getVn hi
      have hg' := getVn hi'
      rw [ei] at hg hg'
      refine ⟨h0, h3, n, d, g1, h0, by omega, n', d', g1', fun x10 h10 => ⟨fun h11 => hK2 fun he => ?_, fun h11 => ⟨h0, h3, n, d, g1, h0, by omega, n', d', g1', fun x18 h18 => ⟨fun h19 => hK2 fun he => ?_, fun h19 z hz => ?_⟩⟩⟩⟩
      · rw [he, g1'] at g1
        cases g1
        rw [h10] at h11
        simp at h11
      · rw [he, g1'] at g1
        cases g1
        rw [h18] at h19
        simp at h19
      · have hz' : z = i + 1 := by rw [hz, IntKind.wrap_i64]; omega
        subst hz'
        refine ⟨i + 1, rfl, rfl, ?_, by omega, by omega, ?_⟩
        · show xs.length - (i + 1).toNat < xs.length - i.toNat
          omega
        · rw [e1, take_s hi, take_s hi', h2, ← hg, ← hg', g1, g1']
          rw [h10] at h11; rw [h18] at h19
          have a1 : n = n' := by simpa using h11
          have a2 : d = d' := by simpa using h19
          rw [a1, a2]
    · simp only [decide_eq_false_iff_not] at h3
      have e2 : xs.take i.toNat = xs := List.take_of_length_le (by omega)
      have e3 : ys.take i.toNat = ys := List.take_of_length_le (by omega)
      rw [e2, e3] at h2
      exact hK h2
  · exact h.elim
theorem c12 (xs ys : List V) (hx : CLs xs) (hy : CLs ys) : CallP Try.prog 12 [.list false xs, .list false ys] (.bool (decJ (xs = ys))) := by
  refine call_loops (Sp := sp12) spNil_ok Try.func12 Try.ntmps12 (by kernel_rfl) (loopsOf_ok ?_) ((n12 xs ys _).mpr ?_)
  · have e : loopsOf 0 (bodyOf Try.f12) = [lcode Try.f12 0] := by kernel_rfl
    rw [e]
    intro p hp
    simp only [List.mem_cons, List.not_mem_nil, or_false] at hp
    subst hp
    exact lsAdd_hit lp12
  · intro _ x1 h1 _ x4 h4 x6 h6
    subst h1; subst h4
    refine ⟨fun h => ?_, fun h => ⟨rfl, hx, hy, ?_, fun he => by rw [decJ_true he], fun he => by rw [decJ_false he]⟩⟩
    · rw [decJ_false]
      intro he
      rw [h6, he] at h
      simp at h
    · rw [h6] at h
      have : (xs.length : Int) = ys.length := by simpa using h
      omega
theorem b12_ok (args : List V) (k : V → Prop) (h : b12 args k) : ∃ r, CallP Try.prog 12 args r ∧ k r := by
  unfold b12 at h
  split at h
  · exact ⟨_, c12 _ _ h.1.1 h.1.2, h.2⟩
  · exact h.elim
end GoL
