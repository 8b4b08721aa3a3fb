/- A part of the proof: a logic for programs of this kind, proved sound over the model; contracts of functions; plain laws. -/
import Derived.Test.YtkkmiicadfmfdaaLN
import Derived.Test.YtkkmiicadfmfdaaLA
set_option linter.all false
open Go Go.Proofs
namespace GoL
set_option linter.unusedVariables false
set_option linter.unusedSimpArgs false
set_option maxRecDepth 8000
theorem sp10_ok : SpOk Try.prog sp10 := shAdd_ok h22_ok (spAdd_ok b19_ok (spAdd_ok b20_ok (spAdd_ok b21_ok spNil_ok)))
theorem lp10_0 : LsOk Try.prog 74 1006 [0, 4, 10, 11, 12] [] ent10_0 (lcode Try.f10 0).2 := by
  intro vs ks K h
  unfold ent10_0 at h
  split at h
  · rename_i l0 n ls m i
    obtain ⟨rfl, rfl, rfl, rfl, ⟨hc, hl, hd⟩, hK, hK2⟩ := h
    refine loop_rule (hints := noHint) (prs := (prsOf [(7, [[], [], [0, 1], [], [3], [2, 0, 1, 4, 3], [5, 2, 0, 1, 4, 3]]), (9, [[], [], [1], [2, 1], [3, 2, 1], [], [5], [6, 5], [7, 6, 5], [4, 3, 2, 1, 8, 7, 6, 5], [0, 9, 4, 3, 2, 1, 8, 7, 6, 5], [10, 0, 9, 4, 3, 2, 1, 8, 7, 6, 5]]), (17, [[], [], [1], [0, 2, 1], [], [4], [5, 4], [3, 0, 2, 1, 6, 5, 4], [], [8], [7, 3, 0, 2, 1, 6, 5, 4, 9, 8], [10, 7, 3, 0, 2, 1, 6, 5, 4, 9, 8]])])) (Ls := noLs) sp10_ok ends10_0 (γ := Int) (fun i => [.list false l0, .int .i64 (12 + sumC (l0.take i.toNat)), .list false l0, .int .i64 l0.length, .int .i64 i]) (fun _ => []) (fun i => l0.length - i.toNat)
      (fun i => 0 ≤ i ∧ i ≤ l0.length ∧ mkErrR [] l0 = mkErrR (l0.take i.toNat) (l0.drop i.toNat)) K (noLoop_ok (by kernel_rfl)) ?_ 0 ⟨by omega, by omega, rfl⟩
    rintro i ⟨h0, h1, h2⟩
    refine (nl10_0 l0 _ _ i _ _ _).mpr ?_
    intro x hx; subst hx
    refine ⟨fun h3 => ?_, fun h3 => ?_⟩
    · simp only [decide_eq_true_eq] at h3
      have hi : i.toNat < l0.length := by omega
      have e1 : (i + 1).toNat = i.toNat + 1 := by omega
      obtain ⟨nm, d, g1, g2, g3⟩ := hc.at h0 h3
      have hg := getVn hi
      rw [show ((i.toNat : Nat) : Int) = i by omega] at hg
      rw [hg] at g2 g3
      rw [dropc hi] at h2
      simp only [mkErrR, g2] at h2
      have hdl := hd _ (List.getElem_mem hi)
      rw [g3] at hdl
      refine ⟨h0, h3, nm, d, g1, fun x5 h5 => ⟨fun h6 => ?_, fun h6 => ⟨⟨trivial, rfl, trivial, trivial, trivial, fun h => absurd rfl h, by decide, by show (0 : Int) ≤ _; omega, by omega, rfl, fun v hv => ?_⟩, fun x12 h12 => ?_⟩⟩⟩
      · rw [h5] at h6
        have h6 : namedS nm = false := by simpa using h6
        rw [h6] at h2
        simp only [if_true] at h2
        have := hK2 (by omega)
        rw [h2] at this
        exact this
      · obtain ⟨a, b, rfl⟩ := hc v hv
        rfl
      · rw [h5] at h6
        have h6 : namedS nm = true := by simpa using h6
        have hx12 : x12 = l0.take i.toNat := by rw [h12]; congr 1; show (i - 0).toNat = _; omega
        subst hx12
        rw [h6] at h2
        simp only [Bool.true_eq_false, if_false] at h2
        refine ⟨fun u hu => hc u (List.mem_of_mem_take hu), fun h7 => ?_, fun h7 x16 h16 x18 h18 x20 h20 => ?_⟩
        · rw [h7] at h2
          simp only [if_true] at h2
          have := hK2 (by omega)
          rw [h2] at this
          exact this
        · rw [h7] at h2
          simp only [Bool.false_eq_true, if_false] at h2
          refine ⟨by omega, fun xf hxf x22 h22 x24 h24 x26 h26 => ?_⟩
          subst hxf
          have hr := sumC_rng (l0.take i.toNat) fun u hu => hd u (List.mem_of_mem_take hu)
          have hlt : (l0.take i.toNat).length = i.toNat := by rw [List.length_take]; omega
          rw [hlt] at hr
          have hf := fill_rng x20
          rw [IntKind.wrap_i64] at h18 h22 h24 h26
          have hz' : x26 = i + 1 := by omega
          subst hz'
          have hs : sumC (l0.take (i + 1).toNat) = sumC (l0.take i.toNat) + szC l0[i.toNat] := by
            rw [e1, take_s hi, sumC_app]; simp [sumC]
          have hsz : szC l0[i.toNat] = 8 + (d.length : Int) + fillI (d.length : Int) := by unfold szC; rw [g3]
          have hx24 : x24 = 12 + sumC (l0.take (i + 1).toNat) := by
            rw [hs, hsz, ← h20]
            omega
          refine ⟨i + 1, by rw [hx24], rfl, ?_, by omega, by omega, ?_⟩
          · show l0.length - (i + 1).toNat < l0.length - i.toNat
            omega
          · rw [h2, e1, take_s hi]
    · simp only [decide_eq_false_iff_not] at h3
      have e : l0.drop i.toNat = [] := List.drop_eq_nil_of_le (by omega)
      have e2 : l0.take i.toNat = l0 := List.take_of_length_le (by omega)
      rw [e] at h2
      rw [e2]
      exact hK h2
  · exact h.elim
theorem lp10_1 : LsOk Try.prog 74 1018 [7, 49, 50, 51] [1008] ent10_1 (lcode Try.f10 1).2 := by
  intro vs ks K h
  unfold ent10_1 at h
  split at h
  · rename_i len ls m i rows
    obtain ⟨rfl, rfl, rfl, ⟨hc, hl, hd⟩, hn, h65, hb, h12, hK⟩ := h
    have e0 : rows ++ mkRows (ls.take (0 : Int).toNat) = rows := by simp [mkRows]
    have hL := loop_rule (N := 74) (c := (lcode Try.f10 1).2) (hints := noHint) (prs := (prsOf [(7, [[], [], [0, 1], [], [3], [2, 0, 1, 4, 3], [5, 2, 0, 1, 4, 3]]), (9, [[], [], [1], [2, 1], [3, 2, 1], [], [5], [6, 5], [7, 6, 5], [4, 3, 2, 1, 8, 7, 6, 5], [0, 9, 4, 3, 2, 1, 8, 7, 6, 5], [10, 0, 9, 4, 3, 2, 1, 8, 7, 6, 5]]), (17, [[], [], [1], [0, 2, 1], [], [4], [5, 4], [3, 0, 2, 1, 6, 5, 4], [], [8], [7, 3, 0, 2, 1, 6, 5, 4, 9, 8], [10, 7, 3, 0, 2, 1, 6, 5, 4, 9, 8]])])) (Ls := noLs) sp10_ok ends10_1 (γ := Int) (fun i => [.sl 1008 (rows ++ mkRows (ls.take i.toNat)).length, .list false ls, .int .i64 ls.length, .int .i64 i]) (fun i => [⟨some 5, false, .agg (rows ++ mkRows (ls.take i.toNat))⟩]) (fun i => ls.length - i.toNat)
      (fun i => 0 ≤ i ∧ i ≤ ls.length) K (noLoop_ok (by kernel_rfl)) (fun i hi => by
        obtain ⟨h0, h1⟩ := hi
        refine (nl10_1 ls (rows ++ mkRows (ls.take i.toNat)) _ i _ _ _).mpr ?_
        intro x hx; subst hx
        have hRb : BLs (rows ++ mkRows (ls.take i.toNat)) := BLs_app hb (mkRows_bl _)
        have hRl : ((rows ++ mkRows (ls.take i.toNat)).length : Int) = 12 + sumC (ls.take i.toNat) := by
          have := mkRows_len (ls.take i.toNat) fun u hu => hn u (List.mem_of_mem_take hu)
          rw [List.length_append]
          omega
        have hr := sumC_rng (ls.take i.toNat) fun u hu => hd u (List.mem_of_mem_take hu)
        have hlt : (ls.take i.toNat).length = i.toNat := by rw [List.length_take]; omega
        rw [hlt] at hr
        have hr2 : sumC (ls.take i.toNat) ≤ sumC ls := by
          have e := sumC_app (ls.take i.toNat) (ls.drop i.toNat)
          rw [List.take_append_drop] at e
          have := sumC_rng (ls.drop i.toNat) fun u hu => hd u (List.mem_of_mem_drop hu)
          omega
        generalize hR : rows ++ mkRows (ls.take i.toNat) = R at *
        refine ⟨fun h3 => ?_, fun h3 => ?_⟩
        · simp only [decide_eq_true_eq] at h3
          have hi : i.toNat < ls.length := by omega
          have e1 : (i + 1).toNat = i.toNat + 1 := by omega
          obtain ⟨nm, d, g1, g2, g3⟩ := hc.at h0 h3
          have hg := getVn hi
          rw [show ((i.toNat : Nat) : Int) = i by omega] at hg
          rw [hg] at g2 g3
          have hdl := hd _ (List.getElem_mem hi)
          rw [g3] at hdl
          have hnl := hn _ (List.getElem_mem hi)
          rw [g2] at hnl
          have b1 : BLs (bl nm) := BLs_bl nm
          have b2 : BLs (bl d) := BLs_bl d
          have l1 : (bl nm).length = 4 := by rw [bl_len, hnl]
          have l2 : (bl d).length = d.length := bl_len d
          have hrl : R.length + 200000 ≤ 1000000000 := by omega
          refine ⟨h0, h3, nm, d, g1, ⟨rfl, rfl, ⟨rfl, trivial⟩, sz_byte b1, rfl, rfl, 1, rfl, ?_, ?_⟩, fun x8 h8 => ?_⟩
          · show (R.length + (bl nm).length) * 1 ≤ _; omega
          · show R.length + (bl nm).length ≤ _; omega
          have l3 : (R ++ bl nm).length = R.length + 4 := by rw [List.length_append, l1]
          have l4 : (R ++ bl nm ++ fourV x8).length = R.length + 8 := by rw [List.length_append, l3]; rfl
          have l5 : (R ++ bl nm ++ fourV x8 ++ bl d).length = R.length + 8 + d.length := by rw [List.length_append, l4, l2]
          refine ⟨⟨?_, BLs_app hRb b1, ?_⟩, ⟨?_, rfl, ⟨rfl, trivial⟩, sz_byte b2, rfl, rfl, 1, rfl, ?_, ?_⟩, fun _ x14 h14 => ?_⟩
          · show R.length + (bl nm).length = (R ++ bl nm).length; omega
          · show (R ++ bl nm).length ≤ _; omega
          · show (R ++ bl nm).length + 4 = (R ++ bl nm ++ fourV x8).length; omega
          · show ((R ++ bl nm).length + 4 + (bl d).length) * 1 ≤ _; omega
          · show (R ++ bl nm).length + 4 + (bl d).length ≤ _; omega
          have hf := fill_rng x14
          have l6 : (List.replicate (fillI x14).toNat (V.int .u8 0)).length = (fillI x14).toNat := List.length_replicate
          refine ⟨⟨by omega, by omega⟩, fun xf hxf => ?_⟩
          subst hxf
          refine ⟨⟨?_, rfl, ⟨hf.1, by omega⟩, sz_byte (BLs_rep _), rfl, rfl, 1, rfl, ?_, ?_⟩, fun _ x20 h20 => ?_⟩
          · show (R ++ bl nm ++ fourV x8).length + (bl d).length = (R ++ bl nm ++ fourV x8 ++ bl d).length; omega
          · show ((R ++ bl nm ++ fourV x8).length + (bl d).length + (List.replicate (fillI x14).toNat (V.int .u8 0)).length) * 1 ≤ _; omega
          · show (R ++ bl nm ++ fourV x8).length + (bl d).length + (List.replicate (fillI x14).toNat (V.int .u8 0)).length ≤ _; omega
          have hz' : x20 = i + 1 := by rw [h20, IntKind.wrap_i64]; omega
          subst hz'
          have key : R ++ bl nm ++ fourV x8 ++ bl d ++ List.replicate (fillI x14).toNat (V.int .u8 0) = rows ++ mkRows (ls.take (i + 1).toNat) := by
            rw [e1, take_s hi, mkRows_app, mkRows_one, ← List.append_assoc, hR]
            unfold chB
            rw [g2, g3, h8, h14]
            simp only [List.append_assoc]
          have kl : (R ++ bl nm ++ fourV x8 ++ bl d).length + (List.replicate (fillI x14).toNat (V.int .u8 0)).length = (rows ++ mkRows (ls.take (i + 1).toNat)).length := by rw [← key]; exact List.length_append.symm
          refine ⟨BLs_noids (BLs_app (BLs_app (BLs_app (BLs_app hRb b1) (BLs_four x8)) b2) (BLs_rep _)), i + 1, ?_, ?_, ?_, by omega, by omega⟩
          · show [V.sl 1008 ((R ++ bl nm ++ fourV x8 ++ bl d).length + (List.replicate (fillI x14).toNat (V.int .u8 0)).length), _, _, _] = _
            rw [kl]
          · show [(⟨some 5, false, .agg (R ++ bl nm ++ fourV x8 ++ bl d ++ List.replicate (fillI x14).toNat (V.int .u8 0))⟩ : Blk)] = _
            rw [key]
          · show ls.length - (i + 1).toNat < ls.length - i.toNat
            omega
        · simp only [decide_eq_false_iff_not] at h3
          have e2 : ls.take i.toNat = ls := List.take_of_length_le (by omega)
          rw [e2] at hR
          subst hR
          exact ⟨BLs_noids hRb, hK⟩) 0 ⟨by omega, by omega⟩
    simp only [e0] at hL
    exact hL
  · exact h.elim
end GoL
