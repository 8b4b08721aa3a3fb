/- A part of the proof: a logic for programs of this kind, proved sound over the model; contracts of functions; plain laws. -/
import Derived.Test.YtkkmiicadfmfdaaXP
set_option linter.all false
open Go Go.Proofs
namespace GoL
set_option linter.unusedVariables false
set_option linter.unusedSimpArgs false
set_option maxRecDepth 8000
theorem num4 {vs : List V} (hb : BLs vs) (h8 : ¬ vs.length < 8) : numS ((vs.drop 4).take 4) = numS (vs.drop 4) := by
  have hnr := num_rng (vs := vs.drop 4)
  have f4 := four_num (BLs_drop hb 4) (by rw [List.length_drop]; omega)
  have := num_four hnr.1 hnr.2 []
  rw [List.append_nil, f4] at this
  exact this
theorem c15 (vs : List V) (hb : BLs vs) : CallP Try.prog 15 [.list false vs] (.tup [.list false (parseS vs).1, .int .i64 (parseS vs).2]) := by
  refine call_loops sp15_ok Try.func15 Try.ntmps15 (by kernel_rfl) (loopsOf_ok ?_) ((n15 vs _).mpr ?_)
  · have e : loopsOf 0 (bodyOf Try.f15) = [lcode Try.f15 0] := by kernel_rfl
    rw [e]
    intro p hp
    simp only [List.mem_cons, List.not_mem_nil, or_false] at hp
    subst hp
    exact lsAdd_hit lp15
  · have hsz : ∀ v, List.Mem v vs → V.sz v = 1 := sz_byte hb
    intro _ x1 h1 x3 h3
    subst h1
    unfold parseS
    refine ⟨fun h => ?_, fun h => ?_⟩
    · rw [h] at h3
      rw [if_pos (of_decide_eq_true h3.symm)]
    rw [h] at h3
    rw [if_neg (of_decide_eq_false h3.symm)]
    intro _ x8 h8 x10 h10
    subst h8
    refine ⟨fun h => ?_, fun h => ?_⟩
    · rw [h] at h10
      rw [if_pos (of_decide_eq_true h10.symm)]
    rw [h] at h10
    have h12 := of_decide_eq_false h10.symm
    have h65 := of_decide_eq_false h3.symm
    rw [if_neg h12]
    refine ⟨⟨trivial, rfl, trivial, trivial, trivial, fun h => absurd rfl h, by decide, by decide, by show (4 : Int) ≤ _; omega, rfl, hsz⟩, fun _ x18 h18 => ⟨⟨rfl, rfl, rfl, trivial, (fun h => by cases h), fun v hv => ?_⟩, fun _ x23 h23 x25 h25 => ?_⟩⟩
    · rw [h18] at hv; exact hb v (List.mem_of_mem_take hv)
    have e18 : x18 = vs.take 4 := by rw [h18]; rfl
    subst e18; subst h23
    refine ⟨fun h => ?_, fun h => ?_⟩
    · rw [h] at h25
      have : hdOk vs = false := by unfold hdOk; rw [if_pos h25.symm]
      rw [if_pos this]
    rw [h] at h25
    refine ⟨⟨trivial, rfl, trivial, trivial, trivial, fun h => absurd rfl h, by decide, by decide, by show (12 : Int) ≤ _; omega, rfl, hsz⟩, fun _ x33 h33 => ⟨⟨rfl, rfl, rfl, trivial, (fun h => by cases h), fun v hv => ?_⟩, fun _ x38 h38 x40 h40 => ?_⟩⟩
    · rw [h33] at hv; exact hb v (List.mem_of_mem_drop (List.mem_of_mem_take hv))
    have e33 : x33 = (vs.drop 8).take 4 := by rw [h33]; rfl
    subst e33; subst h38
    have hn1 : ¬ ((vs.take 4).map byteV != [70, 79, 82, 49]) = true := by rw [← h25]; simp
    refine ⟨fun h => ?_, fun h => ?_⟩
    · rw [h] at h40
      have : hdOk vs = false := by unfold hdOk; rw [if_neg hn1, if_pos h40.symm]
      rw [if_pos this]
    rw [h] at h40
    have hn2 : ¬ (((vs.drop 8).take 4).map byteV != [66, 69, 65, 77]) = true := by rw [← h40]; simp
    refine ⟨⟨trivial, rfl, trivial, trivial, trivial, fun h => absurd rfl h, by decide, by decide, by show (8 : Int) ≤ (vs.length : Int); omega, rfl, hsz⟩, fun _ x48 h48 => ?_⟩
    have e48 : x48 = (vs.drop 4).take 4 := by rw [h48]; rfl
    subst e48
    have h8l : ¬ vs.length < 8 := by omega
    refine ⟨⟨BLs_take (BLs_drop hb 4) 4, by rw [List.length_take, List.length_drop]; omega⟩, fun x50 h50 _ x51 h51 x53 h53 x55 h55 => ?_⟩
    rw [num4 hb h8l] at h50
    subst h51; subst h50
    have e53 : x53 = (vs.length : Int) - 8 := by rw [h53, IntKind.wrap_i64]; omega
    subst e53
    refine ⟨fun h => ?_, fun h => ?_⟩
    · rw [h] at h55
      have : hdOk vs = false := by
        unfold hdOk
        rw [if_neg hn1, if_neg hn2]
        have h55 : (numS (vs.drop 4) != (vs.length : Int) - 8) = true := h55.symm
        simpa using h55
      rw [if_pos this]
    rw [h] at h55
    have hok : ¬ hdOk vs = false := by
      unfold hdOk
      rw [if_neg hn1, if_neg hn2]
      have h55 : (numS (vs.drop 4) != (vs.length : Int) - 8) = false := h55.symm
      simpa using h55
    rw [if_neg hok]
    refine ⟨⟨trivial, rfl, trivial, trivial, trivial, fun h => absurd rfl h, by decide, by show (12 : Int) ≤ (vs.length : Int); omega, by show (vs.length : Int) ≤ _; omega, rfl, hsz⟩, fun _ x63 h63 => ?_⟩
    have e63 : x63 = vs.drop 12 := by rw [h63]; exact slc
    subst e63
    refine ⟨BLs_drop hb 12, by rw [List.length_drop]; omega, fun h => ⟨rfl, ?_⟩, fun h => ?_⟩
    · rw [h]
    · have : (parseR [] (vs.drop 12)).1 = [] := parse_bad 0 _ _ h
      rw [this]
theorem b15_ok (args : List V) (k : V → Prop) (h : b15 args k) : ∃ r, CallP Try.prog 15 args r ∧ k r := by
  unfold b15 at h
  split at h
  · exact ⟨_, c15 _ h.1, h.2 _ _ rfl⟩
  · exact h.elim
theorem sp16_ok : SpOk Try.prog sp16 := spAdd_ok b26_ok (spAdd_ok b18_ok (spAdd_ok b27_ok spNil_ok))
theorem lp16i : LsOk Try.prog 84 1005 [0, 4, 5, 8] [1004] ent16i (lin (lcode Try.f16 0) 0).2 := by
  intro vs ks K h
  unfold ent16i at h
  split at h
  · rename_i ls len i k rows
    obtain ⟨rfl, hb, hl, h0, h1, hK⟩ := h
    have hfk := fill_rng k
    let Z : Nat → List V := fun m => List.replicate m (V.int .u8 0)
    have hbz : ∀ m, BLs (rows ++ Z m) := fun m => BLs_app hb (BLs_rep m)
    have hL := loop_rule (N := 84) (c := (lin (lcode Try.f16 0) 0).2) (hints := noHint) (prs := (prsOf [(7, [[], [], [0, 1], [], [], [3, 4], [5, 3, 4], [6, 5, 3, 4], [2, 0, 1, 7, 6, 5, 3, 4], [8, 2, 0, 1, 7, 6, 5, 3, 4], [9, 8, 2, 0, 1, 7, 6, 5, 3, 4], [9, 8, 2, 0, 1, 7, 6, 5, 3, 4], [10, 9, 8, 2, 0, 1, 7, 6, 5, 3, 4], [11, 9, 8, 2, 0, 1, 7, 6, 5, 3, 4, 12, 10]]), (10, [[], [], [], [1, 2], [3, 1, 2], [4, 3, 1, 2], [0, 5, 4, 3, 1, 2], [], [], [7, 8], [9, 7, 8], [10, 9, 7, 8], [11, 10, 9, 7, 8], [12, 11, 10, 9, 7, 8, 6, 0, 5, 4, 3, 1, 2], [6, 0, 5, 4, 3, 1, 2, 13, 12, 11, 10, 9, 7, 8], [14, 6, 0, 5, 4, 3, 1, 2, 13, 12, 11, 10, 9, 7, 8]])])) (Ls := noLs) sp16_ok ends16_1 (γ := Int) (fun j => [.list false ls, .sl 1004 (rows ++ Z (j - k).toNat).length, .int .i64 i, .int .i64 j]) (fun j => [⟨some 5, false, .agg (rows ++ Z (j - k).toNat)⟩]) (fun j => (k + fillI k - j).toNat)
      (fun j => k ≤ j ∧ j ≤ k + fillI k) K (noLoop_ok (by kernel_rfl)) (fun j hj => by
        obtain ⟨g0, g1⟩ := hj
        refine (nl16_1 ls (rows ++ Z (j - k).toNat) i j _ _ _).mpr ?_
        have hll : (rows ++ Z (j - k).toNat).length ≤ rows.length + 4 := by rw [List.length_append]; show _ + (List.replicate _ _).length ≤ _; rw [List.length_replicate]; omega
        refine ⟨⟨rfl, fun h => by cases h⟩, fun _ x2 h2 x4 h4 => ?_⟩
        have e2 : x2 = j % 4 := by rw [h2]; exact Int.tmod_eq_emod_of_nonneg (by omega)
        subst e2
        refine ⟨fun h => ⟨⟨rfl, rfl, ⟨rfl, rfl⟩, fun v hv => ?_, rfl, rfl, 1, rfl, ?_, ?_⟩, fun _ x11 h11 => ?_⟩, fun h => ⟨BLs_noids (hbz _), ?_⟩⟩
        · rcases List.mem_cons.1 hv with rfl | hv
          · rfl
          · cases hv
        · show ((rows ++ Z (j - k).toNat).length + 1) * 1 ≤ _; omega
        · show (rows ++ Z (j - k).toNat).length + 1 ≤ _; omega
        · have hne : j % 4 ≠ 0 := by rw [h4] at h; simpa using h
          have hlt : j < k + fillI k := by
            rcases Int.lt_or_le j (k + fillI k) with h5 | h5
            · exact h5
            · exfalso
              have e : j = k + fillI k := by omega
              rw [e] at hne
              exact hne hfk.2.2
          have e11 : x11 = j + 1 := by rw [h11, IntKind.wrap_i64]; omega
          subst e11
          have ez : (rows ++ Z (j - k).toNat) ++ [V.int .u8 0] = rows ++ Z (j + 1 - k).toNat := by
            have e : (j + 1 - k).toNat = (j - k).toNat + 1 := by omega
            rw [List.append_assoc, e]
            show rows ++ (List.replicate _ _ ++ [_]) = rows ++ List.replicate _ _
            rw [List.replicate_succ']
          have el : (rows ++ Z (j - k).toNat).length + List.length [V.int .u8 0] = (rows ++ Z (j + 1 - k).toNat).length := by rw [← ez]; exact List.length_append.symm
          rw [ez, el]
          refine ⟨BLs_noids (hbz _), j + 1, rfl, rfl, ?_, by omega, by omega⟩
          show (k + fillI k - (j + 1)).toNat < (k + fillI k - j).toNat
          omega
        · have he : j % 4 = 0 := by rw [h4] at h; simpa using h
          have e : j = k + fillI k := by omega
          subst e
          have e2 : (k + fillI k - k).toNat = (fillI k).toNat := by omega
          rw [e2]
          exact hK) k ⟨by omega, by omega⟩
    have e0 : rows ++ Z (k - k).toNat = rows := by
      rw [Int.sub_self]
      show rows ++ List.replicate 0 _ = rows
      simp
    simp only [e0] at hL
    exact hL
  · exact h.elim
theorem lp16 : LsOk Try.prog 84 1004 [0, 4, 5] [] ent16 (lcode Try.f16 0).2 := by
  intro vs ks K h
  unfold ent16 at h
  split at h
  · rename_i ls i
    obtain ⟨rfl, ⟨hc, hl, hd⟩, hS, hK, hK2⟩ := h
    refine TL_own (t := 4) (E := 5) rfl ?_
    have hcc : cutK 1005 [0, 4, 5] [1004] (fun vs ks => vs = [.list false ls, .sl 1004 0, .int .i64 0] ∧ ks = [⟨some 5, false, .agg []⟩]) 1005 ((4, .sl 1004 0) :: List.zip [0, 4, 5] [.list false ls, .nils, .int .i64 0]) ((1004, ⟨some 5, false, .agg []⟩) :: List.zip [] []) := ⟨fun v hv => (by cases hv), rfl, rfl⟩
    obtain ⟨vs, ks, ⟨rfl, rfl⟩, hw⟩ := cutK_go hcc
    have hL := loop_rule (N := 84) (c := (lcode Try.f16 0).2) (hints := noHint) (prs := (prsOf [(7, [[], [], [0, 1], [], [], [3, 4], [5, 3, 4], [6, 5, 3, 4], [2, 0, 1, 7, 6, 5, 3, 4], [8, 2, 0, 1, 7, 6, 5, 3, 4], [9, 8, 2, 0, 1, 7, 6, 5, 3, 4], [9, 8, 2, 0, 1, 7, 6, 5, 3, 4], [10, 9, 8, 2, 0, 1, 7, 6, 5, 3, 4], [11, 9, 8, 2, 0, 1, 7, 6, 5, 3, 4, 12, 10]]), (10, [[], [], [], [1, 2], [3, 1, 2], [4, 3, 1, 2], [0, 5, 4, 3, 1, 2], [], [], [7, 8], [9, 7, 8], [10, 9, 7, 8], [11, 10, 9, 7, 8], [12, 11, 10, 9, 7, 8, 6, 0, 5, 4, 3, 1, 2], [6, 0, 5, 4, 3, 1, 2, 13, 12, 11, 10, 9, 7, 8], [14, 6, 0, 5, 4, 3, 1, 2, 13, 12, 11, 10, 9, 7, 8]])])) (Ls := ls16i) sp16_ok ends16_0 (γ := Int) (fun i => [.list false ls, .sl 1004 (mkRows (ls.take i.toNat)).length, .int .i64 i]) (fun i => [⟨some 5, false, .agg (mkRows (ls.take i.toNat))⟩]) (fun i => ls.length - i.toNat)
      (fun i => 0 ≤ i ∧ i ≤ ls.length ∧ (∀ u ∈ ls.take i.toNat, (nmV u).length = 4) ∧ mkErrR [] ls = mkErrR (ls.take i.toNat) (ls.drop i.toNat)) K (loopsOf_ok (by
        have e : loopsOf 0 (lcode Try.f16 0).2 = [(2, (lin (lcode Try.f16 0) 0).2)] := by kernel_rfl
        show ∀ p ∈ loopsOf 0 (lcode Try.f16 0).2, _
        rw [e]
        intro p hp
        simp only [List.mem_cons, List.not_mem_nil, or_false] at hp
        subst hp
        exact lsAdd_hit lp16i)) (fun i hi => by
        obtain ⟨h0, h1, hn, h2⟩ := hi
        have hRb : BLs (mkRows (ls.take i.toNat)) := mkRows_bl _
        have hRl : ((mkRows (ls.take i.toNat)).length : Int) = sumC (ls.take i.toNat) := mkRows_len _ hn
        have hr2 : sumC (ls.take i.toNat) ≤ sumC ls := by
          have e := sumC_app (ls.take i.toNat) (ls.drop i.toNat)
          rw [List.take_append_drop] at e
          have := sumC_rng (ls.drop i.toNat) fun u hu => hd u (List.mem_of_mem_drop hu)
          omega
        refine (nl16_0 ls (mkRows (ls.take i.toNat)) i _ _ _).mpr ?_
        generalize hR : mkRows (ls.take i.toNat) = Rw at hRb hRl
        intro _ x1 hx1 x3 hx3; subst hx1; subst hx3
        refine ⟨fun h3 => ?_, fun h3 => ?_⟩
        · simp only [decide_eq_true_eq] at h3
          have hi : i.toNat < ls.length := by omega
          have e1 : (i + 1).toNat = i.toNat + 1 := by omega
          obtain ⟨nm, d, g1, g2, g3⟩ := hc.at h0 h3
          have hg := getVn hi
          rw [show ((i.toNat : Nat) : Int) = i by omega] at hg
          rw [hg] at g2 g3
          have hdl := hd _ (List.getElem_mem hi)
          rw [g3] at hdl
          rw [dropc hi] at h2
          simp only [mkErrR, g2] at h2
          refine ⟨h0, h3, nm, d, g1, fun x8 h8 => ⟨fun h9 => ?_, fun h9 => ⟨⟨trivial, rfl, trivial, trivial, trivial, fun h => absurd rfl h, by decide, by show (0 : Int) ≤ _; omega, by omega, rfl, fun v hv => ?_⟩, fun x15 h15 => ?_⟩⟩⟩
          · rw [h8] at h9
            have h6 : namedS nm = false := by simpa using h9
            rw [h6] at h2
            simp only [if_true] at h2
            have := hK2 (by omega)
            rw [h2] at this
            exact this
          · obtain ⟨a, b, rfl⟩ := hc v hv
            rfl
          rw [h8] at h9
          have h6 : namedS nm = true := by simpa using h9
          have hnl := named_len h6
          have e15 : x15 = ls.take i.toNat := by rw [h15]; congr 1; show (i - 0).toNat = _; omega
          subst e15
          rw [h6] at h2
          simp only [Bool.true_eq_false, if_false] at h2
          have hct : CLs (ls.take i.toNat) := fun u hu => hc u (List.mem_of_mem_take hu)
          refine ⟨h0, h3, nm, d, g1, hct, fun h10 => ?_, fun h10 => ?_⟩
          · rw [find_snd] at h10
            rw [h10] at h2
            simp only [if_true] at h2
            have := hK2 (by omega)
            rw [h2] at this
            exact this
          rw [find_snd] at h10
          rw [h10] at h2
          simp only [Bool.false_eq_true, if_false] at h2
          have b1 : BLs (bl nm) := BLs_bl nm
          have b2 : BLs (bl d) := BLs_bl d
          have l1 : (bl nm).length = 4 := by rw [bl_len, hnl]
          have l2 : (bl d).length = d.length := bl_len d
          have hRn : Rw.length ≤ 1000000 := by omega
          refine ⟨h0, h3, nm, d, g1, ⟨rfl, rfl, ⟨rfl, trivial⟩, sz_byte b1, rfl, rfl, 1, rfl, ?_, ?_⟩, h0, h3, nm, d, g1, fun x28 h28 => ?_⟩
          · show (Rw.length + (bl nm).length) * 1 ≤ _; omega
          · show Rw.length + (bl nm).length ≤ _; omega
          have l3 : (Rw ++ bl nm).length = Rw.length + 4 := by rw [List.length_append, l1]
          have l4 : (Rw ++ bl nm ++ fourV x28).length = Rw.length + 8 := by rw [List.length_append, l3]; rfl
          have l5 : (Rw ++ bl nm ++ fourV x28 ++ bl d).length = Rw.length + 8 + d.length := by rw [List.length_append, l4, l2]
          have lf : (fourV x28).length = 4 := rfl
          refine ⟨⟨by omega, by omega⟩, ⟨?_, rfl, ⟨rfl, trivial⟩, sz_byte (BLs_four x28), rfl, rfl, 1, rfl, ?_, ?_⟩, h0, h3, nm, d, g1, ⟨?_, rfl, ⟨rfl, trivial⟩, sz_byte b2, rfl, rfl, 1, rfl, ?_, ?_⟩, fun _ => ⟨h0, h3, nm, d, g1, fun _ x42 h42 => ?_⟩⟩
          · show Rw.length + (bl nm).length = (Rw ++ bl nm).length; omega
          · show (Rw.length + (bl nm).length + (fourV x28).length) * 1 ≤ _; omega
          · show Rw.length + (bl nm).length + (fourV x28).length ≤ _; omega
          · show (Rw ++ bl nm).length + (fourV x28).length = (Rw ++ bl nm ++ fourV x28).length; omega
          · show ((Rw ++ bl nm).length + (fourV x28).length + (bl d).length) * 1 ≤ _; omega
          · show (Rw ++ bl nm).length + (fourV x28).length + (bl d).length ≤ _; omega
          have hB : BLs (Rw ++ bl nm ++ fourV x28 ++ bl d) := BLs_app (BLs_app (BLs_app hRb b1) (BLs_four x28)) b2
          refine ⟨BLs_noids hB, ?_, hB, ?_, by omega, by omega, fun x44 h44 => ?_⟩
          · show (Rw ++ bl nm ++ fourV x28).length + (bl d).length = (Rw ++ bl nm ++ fourV x28 ++ bl d).length; omega
          · show (Rw ++ bl nm ++ fourV x28 ++ bl d).length ≤ _; omega
          have e44 : x44 = i + 1 := by rw [h44, IntKind.wrap_i64]; omega
          subst e44
          have key : Rw ++ bl nm ++ fourV x28 ++ bl d ++ List.replicate (fillI x42).toNat (V.int .u8 0) = mkRows (ls.take (i + 1).toNat) := by
            rw [e1, take_s hi, mkRows_app, mkRows_one, hR]
            unfold chB
            rw [g2, g3, h28, h42]
            simp only [List.append_assoc]
          refine ⟨BLs_noids (BLs_app hB (BLs_rep _)), i + 1, ?_, ?_, ?_, by omega, by omega, fun u hu => ?_, by rw [h2, e1, take_s hi]⟩
          · show [_, V.sl 1004 (Rw ++ bl nm ++ fourV x28 ++ bl d ++ List.replicate (fillI x42).toNat (V.int .u8 0)).length, _] = _
            rw [key]
          · show [(⟨some 5, false, .agg (Rw ++ bl nm ++ fourV x28 ++ bl d ++ List.replicate (fillI x42).toNat (V.int .u8 0))⟩ : Blk)] = _
            rw [key]
          · show ls.length - (i + 1).toNat < ls.length - i.toNat
            omega
          · rw [e1, take_s hi] at hu
            rcases List.mem_append.1 hu with hu | hu
            · exact hn u hu
            · simp at hu; subst hu; rw [g2]; exact hnl
        · simp only [decide_eq_false_iff_not] at h3
          have e : ls.drop i.toNat = [] := List.drop_eq_nil_of_le (by omega)
          have e2 : ls.take i.toNat = ls := List.take_of_length_le (by omega)
          rw [e] at h2
          rw [e2] at hR
          exact ⟨BLs_noids hRb, hK h2 Rw hR.symm⟩) 0 ⟨by omega, by omega, (fun u hu => by cases hu), rfl⟩
    exact hL.weak hw
  · exact h.elim
theorem c16 (ls : List V) (hf : FitC ls) (hS : sumC ls ≤ 1000000) : CallP Try.prog 16 [.list false ls] (if mkE ls = 0 then .tup [.list false (mkS ls), .int .i64 0] else .tup [.list false [], .int .i64 (mkE ls)]) := by
  refine call_loops sp16_ok Try.func16 Try.ntmps16 (by kernel_rfl) (loopsOf_ok ?_) ((n16 ls _).mpr ?_)
  · have e : loopsOf 0 (bodyOf Try.f16) = [lcode Try.f16 0] := by kernel_rfl
    rw [e]
    intro p hp
    simp only [List.mem_cons, List.not_mem_nil, or_false] at hp
    subst hp
    exact lsAdd_hit lp16
  · refine ⟨rfl, hf, hS, fun h0 R hR => ⟨rfl, fun _ x4 h4 x6 h6 => ?_⟩, fun h => ?_⟩
    · have hR : R = mkRows ls := hR
      have hRl : ((mkRows ls).length : Int) = sumC ls := mkRows_len ls fun u hu => named_len (mkErr_named _ _ h0 u hu)
      rw [← hR] at hRl
      have hRb : BLs R := by rw [hR]; exact mkRows_bl ls
      subst h4
      refine ⟨fun h => ?_, fun h => ⟨⟨rfl, rfl, by omega⟩, fun _ => ⟨rfl, fun _ x12 h12 x14 h14 => ?_⟩⟩⟩
      · rw [h] at h6
        have hbig := of_decide_eq_true h6.symm
        have hE : mkE ls = 2 := by
          unfold mkE
          rw [if_pos h0, if_pos (by omega)]
        rw [if_neg (by rw [hE]; decide), hE]
      · rw [h] at h6
        have hsm := of_decide_eq_false h6.symm
        subst h12
        have e14 : x14 = 4 + sumC ls := by rw [h14, IntKind.wrap_i64]; omega
        have hE : mkE ls = 0 := by
          unfold mkE
          rw [if_pos h0, if_neg (by omega)]
        rw [if_pos hE]
        have lR : R.length ≤ 1000000 := by omega
        refine ⟨⟨by omega, by omega⟩, ⟨rfl, rfl, ⟨rfl, trivial⟩, sz_byte (BLs_four x14), rfl, rfl, 1, rfl, by show (4 + 4) * 1 ≤ _; omega, by show 4 + 4 ≤ _; omega⟩, fun _ => ⟨⟨rfl, rfl, ⟨rfl, trivial⟩, sz_byte b4_bl, rfl, rfl, 1, rfl, by show (4 + 4 + 4) * 1 ≤ _; omega, by show 4 + 4 + 4 ≤ _; omega⟩, fun _ => ⟨⟨rfl, rfl, ⟨rfl, rfl⟩, sz_byte hRb, rfl, rfl, 1, rfl, by show (8 + 4 + R.length) * 1 ≤ _; omega, by show 8 + 4 + R.length ≤ _; omega⟩, fun _ => ⟨?_, ?_⟩⟩⟩⟩
        · show 12 + R.length = (mkHd x14 ++ R).length
          rw [List.length_append, mkHd_len]
        · unfold mkS
          rw [← hR, ← e14]
          rfl
    · have hE : mkE ls = mkErrR [] ls := by
        unfold mkE
        rw [if_neg h]
      rw [if_neg (by rw [hE]; exact h), hE]
theorem b16_ok (args : List V) (k : V → Prop) (h : b16 args k) : ∃ r, CallP Try.prog 16 args r ∧ k r := by
  unfold b16 at h
  split at h
  · rename_i ls
    obtain ⟨hf, hS, h1, h2⟩ := h
    refine ⟨_, c16 ls hf hS, ?_⟩
    by_cases hE : mkE ls = 0
    · rw [if_pos hE]; exact h1 hE _ rfl
    · rw [if_neg hE]; exact h2 _ rfl hE
  · exact h.elim
theorem b17n_ok (args : List V) (k : V → Prop) (h : b17n args k) : ∃ r, CallP Try.prog 17 args r ∧ k r := by
  unfold b17n at h
  split at h
  · exact ⟨_, c17 _ _ h.1, h.2 _ _ rfl⟩
  · exact h.elim
theorem b18n_ok (args : List V) (k : V → Prop) (h : b17n args k) : ∃ r, CallP Try.prog 18 args r ∧ k r := by
  unfold b17n at h
  split at h
  · exact ⟨_, c18 _ _ h.1, h.2 _ _ rfl⟩
  · exact h.elim
theorem sp6_ok : SpOk Try.prog sp6 := shAdd_ok h10_ok (spAdd_ok b11_ok (spAdd_ok b8_ok (spAdd_ok b9_ok (spAdd_ok b12_ok (spAdd_ok b13_ok (spAdd_ok b15_ok (spAdd_ok b16_ok (spAdd_ok b17n_ok (spAdd_ok b18n_ok spNil_ok)))))))))
end GoL
