/- A part of the proof: a logic for programs of this kind, proved sound over the model; contracts of functions; plain laws. -/
import Derived.Test.YtkkmiicadfmfdaaMN
import Derived.Test.YtkkmiicadfmfdaaLQ
set_option linter.all false
open Go Go.Proofs
namespace GoL
set_option linter.unusedVariables false
set_option linter.unusedSimpArgs false
set_option maxRecDepth 8000
theorem lp28s : LsOk Try.prog 19 1000 [0, 1, 7, 8] [0] ent28s (lcode Try.f28 0).2 := by
  intro vs ks K h
  unfold ent28s at h
  split at h
  · rename_i len s n i ls
    obtain ⟨rfl, rfl, hl, rfl, hc, hK, hK2⟩ := h
    have hno : NoIds ls := fun v hv => by obtain ⟨a, b, rfl⟩ := hc v hv; rfl
    refine loop_rule (hints := hintOf [(4004, 1)]) (prs := prsOf []) (Ls := noLs) sp28_31_ok ends28s (γ := Int) (fun i => [.sl 0 ls.length, .fn 31 [.dptr (.str s)], .int .i64 ls.length, .int .i64 i]) (fun _ => [⟨some 36, false, .agg ls⟩]) (fun i => ls.length - i.toNat)
      (fun i => 0 ≤ i ∧ i ≤ ls.length ∧ idxI s ls 0 = idxI s (ls.drop i.toNat) i) K (noLoop_ok (by kernel_rfl)) ?_ 0 ⟨by omega, by omega, rfl⟩
    rintro i ⟨h0, h1, h2⟩
    refine (nl28s s ls _ i _ _ _).mpr ?_
    intro x hx; subst hx
    refine ⟨fun h3 => ?_, fun h3 => ?_⟩
    · simp only [decide_eq_true_eq] at h3
      have hi : i.toNat < ls.length := by omega
      have e1 : (i + 1).toNat = i.toNat + 1 := by omega
      obtain ⟨n, d, g1, g2, _⟩ := hc.at h0 h3
      have hg := getVn hi
      rw [show ((i.toNat : Nat) : Int) = i by omega] at hg
      rw [hg] at g1 g2
      rw [dropc hi] at h2
      simp only [idxI, g2] at h2
      have hoff : V.szs (ls.take i.toNat) = i.toNat * 2 := by
        have h5 : V.szs (ls.take i.toNat) = (ls.take i.toNat).length * 2 := szs_const fun v hv => by obtain ⟨a, b, rfl⟩ := hc v (List.mem_of_mem_take hv); rfl
        rw [h5, List.length_take]; omega
      refine ⟨rfl, h0, h3, rfl, n, d, ?_, rfl, ?_, fun h4 => ⟨hno, ?_⟩, fun h4 z hz => ⟨hno, ?_⟩⟩
      · show V.sub (.agg ls) [i.toNat] = _
        simp only [V.sub, List.getElem?_eq_getElem hi, g1]
      · show V.off (.agg ls) [i.toNat] = _
        simp only [V.off, List.getElem?_eq_getElem hi, hoff, Nat.add_zero]
      · rw [h4] at h2
        simp only [if_true] at h2
        rw [← h2]
        exact hK2 (by omega)
      · rw [h4] at h2
        simp only [Bool.false_eq_true, if_false] at h2
        have hz' : z = i + 1 := by rw [hz, IntKind.wrap_i64]; omega
        subst hz'
        refine ⟨i + 1, rfl, rfl, ?_, by omega, by omega, ?_⟩
        · show ls.length - (i + 1).toNat < ls.length - i.toNat
          omega
        · rw [h2, e1]
    · simp only [decide_eq_false_iff_not] at h3
      have e : ls.drop i.toNat = [] := List.drop_eq_nil_of_le (by omega)
      rw [e] at h2
      exact ⟨hno, hK h2⟩
  · exact h.elim
theorem c28s (s : List UInt8) (ls : List V) (hc : CLs ls) : CallH Try.prog 28 [.sl 0 ls.length, .fn 31 [.dptr (.str s)]] (lkB [(0, ⟨some 36, false, .agg ls⟩)]) (.int .i64 (idxI s ls 0)) (lkB [(0, ⟨some 36, false, .agg ls⟩)]) := by
  refine callH_go (η := [(0, ⟨some 36, false, .agg ls⟩)]) (ids := [0]) (ks := [⟨some 36, false, .agg ls⟩]) (hint := none) sp28_31_ok Try.func28 Try.ntmps28 (by kernel_rfl) (loopsOf_ok ?_) ((n28s s ls _ _).mpr ?_)
  · have e : loopsOf 0 (bodyOf Try.f28) = [lcode Try.f28 0] := by kernel_rfl
    rw [e]
    intro p hp
    simp only [List.mem_cons, List.not_mem_nil, or_false] at hp
    subst hp
    exact lsAdd_hit lp28s
  · exact ⟨rfl, fun hl x1 h1 => ⟨fun v hv => by (obtain ⟨a, b, rfl⟩ := hc v hv; rfl), rfl, h1, hl, rfl, hc, fun h => ⟨by rw [h], rfl⟩, fun _ => ⟨rfl, rfl⟩⟩⟩
theorem h28_ok : HOk Try.prog 28 h28 := by
  intro hvc rest H1 id k h
  unfold h28 at h
  split at h
  · rename_i c len s
    split at h
    · rename_i ls e
      obtain ⟨⟨rfl, hc⟩, h3⟩ := h
      exact ⟨_, _, hsem_look e rfl (c28s s ls hc), h3⟩
    · exact h.elim
  · exact h.elim
theorem sp30s_ok : SpOk Try.prog sp30s := shAdd_ok h28_ok spNil_ok
theorem c30s (s : List UInt8) (ls : List V) (hc : CLs ls) : CallH Try.prog 30 [.sl 0 ls.length, .fn 31 [.dptr (.str s)]] (lkB [(0, ⟨some 36, false, .agg ls⟩)]) (.bool (hasS ls s)) (lkB [(0, ⟨some 36, false, .agg ls⟩)]) :=
  callH_go (η := [(0, ⟨some 36, false, .agg ls⟩)]) (ids := [0]) (ks := [⟨some 36, false, .agg ls⟩]) (hint := none) (Ls := noLs) (hints := noHint) (prs := prsOf []) sp30s_ok Try.func30 Try.ntmps30 (by kernel_rfl) (noLoop_ok (by kernel_rfl)) ((n30s s ls _ _).mpr ⟨⟨rfl, hc⟩, fun x hx => ⟨by rw [hx, idx_has], rfl⟩⟩)
theorem h30_ok : HOk Try.prog 30 h30 := by
  intro hvc rest H1 id k h
  unfold h30 at h
  split at h
  · rename_i c len s
    split at h
    · rename_i ls e
      obtain ⟨⟨rfl, hc⟩, h3⟩ := h
      exact ⟨_, _, hsem_look e rfl (c30s s ls hc), h3⟩
    · exact h.elim
  · exact h.elim
theorem sp20s_ok : SpOk Try.prog sp20s := shAdd_ok h30_ok spNil_ok
theorem c20s (s : List UInt8) (ls : List V) (hc : CLs ls) : CallH Try.prog 20 [.sl 0 ls.length, .str s] (lkB [(0, ⟨some 36, false, .agg ls⟩)]) (.bool (hasS ls s)) (lkB [(0, ⟨some 36, false, .agg ls⟩)]) :=
  callH_go (η := [(0, ⟨some 36, false, .agg ls⟩)]) (ids := [0]) (ks := [⟨some 36, false, .agg ls⟩]) (hint := none) (Ls := noLs) (hints := noHint) (prs := prsOf []) sp20s_ok Try.func20 Try.ntmps20 (by kernel_rfl) (noLoop_ok (by kernel_rfl)) ((n20s s ls _ _).mpr ⟨⟨rfl, fun v hv => by rcases List.mem_cons.1 hv with rfl | hv <;> first | exact ⟨rfl, rfl⟩ | cases hv⟩, fun _ => ⟨⟨rfl, hc⟩, rfl, rfl⟩⟩)
theorem h20_ok : HOk Try.prog 20 h20 := by
  intro hvc rest H1 id k h
  unfold h20 at h
  split at h
  · rename_i c len s
    split at h
    · rename_i ls e
      obtain ⟨⟨rfl, hc⟩, h3⟩ := h
      exact ⟨_, _, hsem_look e rfl (c20s s ls hc), h3⟩
    · exact h.elim
  · exact h.elim
theorem sp11_ok : SpOk Try.prog sp11 := shAdd_ok h20_ok (spAdd_ok b19_ok (spAdd_ok b21_ok (spAdd_ok b23_ok spNil_ok)))
theorem parseF_ext : ∀ (n m : Nat) (acc vs : List V), vs.length ≤ n → vs.length ≤ m → parseF n acc vs = parseF m acc vs
  | 0, 0, _, _, _, _ => rfl
  | 0, m + 1, acc, vs, h, _ => by
    have : vs.length = 0 := by omega
    simp only [parseF, this, if_true]
  | n + 1, 0, acc, vs, _, h => by
    have : vs.length = 0 := by omega
    simp only [parseF, this, if_true]
  | n + 1, m + 1, acc, vs, h1, h2 => by
    simp only [parseF]
    split
    · rfl
    · rename_i h0
      have hl : (nxtS vs).length ≤ vs.length - 8 := by unfold nxtS; simp only [List.length_drop]; omega
      rw [parseF_ext n m _ _ (by omega) (by omega)]
theorem parse_nil {acc vs : List V} (h : vs.length = 0) : parseR acc vs = (acc, 0) := by unfold parseR; rw [h]; rfl
theorem parse_err {acc vs : List V} (h : vs.length ≠ 0) (he : errS acc vs ≠ 0) : parseR acc vs = ([], errS acc vs) := by
  unfold parseR
  obtain ⟨k, hk⟩ := Nat.exists_eq_succ_of_ne_zero h
  rw [hk]
  simp only [parseF, if_neg h, if_neg he]
theorem parse_step {acc vs : List V} (h : vs.length ≠ 0) (he : errS acc vs = 0) : parseR acc vs = parseR (acc ++ [chkS vs]) (nxtS vs) := by
  unfold parseR
  obtain ⟨k, hk⟩ := Nat.exists_eq_succ_of_ne_zero h
  have hl : (nxtS vs).length ≤ vs.length - 8 := by unfold nxtS; simp only [List.length_drop]; omega
  conv => lhs; rw [hk]
  simp only [parseF, if_neg h, he, if_true]
  exact parseF_ext _ _ _ _ (by omega) (by omega)
theorem num_rng {vs : List V} : 0 ≤ numS vs ∧ numS vs < 4294967296 := by
  have h : ∀ i, 0 ≤ bAt vs i ∧ bAt vs i < 256 := fun i => by
    unfold bAt
    have := (byteV (vs.getD i .junk)).toNat_lt
    omega
  have h0 := h 0
  have h1 := h 1
  have h2 := h 2
  have h3 := h 3
  unfold numS
  omega
theorem BLs_take {vs : List V} (h : BLs vs) (n : Nat) : BLs (vs.take n) := fun v hv => h v (List.mem_of_mem_take hv)
theorem BLs_drop {vs : List V} (h : BLs vs) (n : Nat) : BLs (vs.drop n) := fun v hv => h v (List.mem_of_mem_drop hv)
theorem slc {vs : List V} {k : Nat} : List.take (Int.ofNat (List.length vs) - Int.ofNat k).toNat (List.drop (Int.ofNat k).toNat vs) = vs.drop k := by
  have e : (Int.ofNat k).toNat = k := rfl
  rw [e]
  refine List.take_of_length_le ?_
  rw [List.length_drop]
  show _ ≤ ((vs.length : Int) - (k : Int)).toNat
  omega
theorem slc2 {vs : List V} {x : Int} (h0 : 0 ≤ x) : List.take (Int.ofNat (List.length vs) - x).toNat (List.drop x.toNat vs) = vs.drop x.toNat := by
  refine List.take_of_length_le ?_
  rw [List.length_drop]
  show _ ≤ ((vs.length : Int) - x).toNat
  omega
theorem lp11 : LsOk Try.prog 112 1034 [0, 4] [] ent11 (lcode Try.f11 0).2 := by
  intro vs ks K h
  unfold ent11 at h
  split at h
  · rename_i v0
    obtain ⟨hb0, hl0, hK, hK2⟩ := h
    refine TL_own (t := 4) (E := 36) rfl ?_
    have hc : cutK 1035 [0, 4] [1034] (fun vs ks => vs = [.list false v0, .sl 1034 0] ∧ ks = [⟨some 36, false, .agg []⟩]) 1035 ((4, .sl 1034 0) :: List.zip [0, 4] [.list false v0, .nils]) ((1034, ⟨some 36, false, .agg []⟩) :: List.zip [] []) := ⟨fun v hv => (by cases hv), rfl, rfl⟩
    obtain ⟨vs, ks, ⟨rfl, rfl⟩, hw⟩ := cutK_go hc
    have hL := loop_rule (N := 112) (c := (lcode Try.f11 0).2) (hints := noHint) (prs := (prsOf [(12, [[], [0], [1, 0], [], [3], [4, 3], [2, 1, 0, 5, 4, 3], [5, 4, 3, 6, 2, 1, 0]]), (16, [[], [], [], [0, 1, 2], [], [], [], [], [7], [6, 8, 7], [], [], [11, 8, 7], [10, 12, 11, 8, 7], [4, 5, 9, 6, 8, 7, 13, 10, 12, 11], [3, 0, 1, 2, 12, 11, 8, 7], [14, 4, 5, 9, 6, 8, 7, 13, 10, 12, 11, 15, 3, 0, 1, 2]]), (17, [[], [0], [1, 0], [2, 1, 0], [3, 2, 1, 0], [4, 3, 2, 1, 0], [3, 2, 1, 0], [6, 3, 2, 1, 0], [7, 6, 3, 2, 1, 0], [8, 7, 6, 3, 2, 1, 0], [5, 4, 3, 2, 1, 0, 9, 8, 7, 6], [3, 2, 1, 0, 10, 5, 4, 9, 8, 7, 6], [11, 3, 2, 1, 0, 10, 5, 4, 9, 8, 7, 6]])])) (Ls := noLs) sp11_ok ends11_0 (γ := List V × List V) (fun g => [.list false g.2, .sl 1034 g.1.length]) (fun g => [⟨some 36, false, .agg g.1⟩]) (fun g => g.2.length)
      (fun g => BLs g.2 ∧ CLs g.1 ∧ 8 * g.1.length + g.2.length ≤ 65536 ∧ parseR [] v0 = parseR g.1 g.2) K (noLoop_ok (by kernel_rfl)) (fun g hg => by
        obtain ⟨acc, vs⟩ := g
        obtain ⟨hb, hca, hlen, hp⟩ := hg
        simp only at hb hca hlen hp
        refine (nl11_0 vs acc _ _ _).mpr ?_
        have hno : NoIds acc := fun v hv => by obtain ⟨a, b, rfl⟩ := hca v hv; rfl
        intro _ x1 h1 x3 h3
        subst h1
        refine ⟨fun h => ?_, fun h => ?_⟩
        · rw [h] at h3
          have hn : vs.length = 0 := by have : (vs.length : Int) = 0 := by simpa using h3.symm
                                        omega
          rw [parse_nil hn] at hp
          have := hK (by rw [hp])
          rw [hp] at this
          exact ⟨hno, this⟩
        · rw [h] at h3
          have hn : vs.length ≠ 0 := by
            intro h0
            rw [h0] at h3
            simp at h3
          have ret : ∀ e : Int, errS acc vs = e → e ≠ 0 → K .ret 1035 [(2, .nils), (3, .int .i64 e)] [] := fun e he hne => by
            have hpe := parse_err hn (by rw [he]; exact hne)
            rw [he] at hpe
            rw [hpe] at hp
            have := hK2 (by rw [hp]; exact hne)
            rw [hp] at this
            exact this
          intro _ x8 h8 x10 h10
          subst h8
          have hsz : ∀ v, List.Mem v vs → V.sz v = 1 := sz_byte hb
          refine ⟨fun h9 => ret 3 ?_ (by decide), fun h9 => ?_⟩
          · rw [h9] at h10
            have := of_decide_eq_true h10.symm
            unfold errS
            rw [if_pos (by omega)]
          rw [h9] at h10
          have h8l : ¬ vs.length < 8 := by have := of_decide_eq_false h10.symm; omega
          refine ⟨⟨trivial, rfl, trivial, trivial, trivial, fun h => absurd rfl h, by decide, by decide, by show (4 : Int) ≤ _; omega, rfl, hsz⟩, fun x17 h17 => ?_⟩
          have e17 : x17 = vs.take 4 := by rw [h17]; rfl
          subst e17
          refine ⟨⟨rfl, rfl, rfl, trivial, (fun h => by cases h), fun v hv => hb v (List.mem_of_mem_take hv)⟩, fun x21 h21 => ⟨⟨trivial, rfl, trivial, trivial, trivial, fun h => absurd rfl h, by decide, by show (4 : Int) ≤ (vs.length : Int); omega, by show (vs.length : Int) ≤ _; omega, rfl, hsz⟩, fun x26 h26 => ?_⟩⟩
          have e26 : x26 = vs.drop 4 := by rw [h26]; exact slc
          subst e26
          refine ⟨⟨BLs_drop hb 4, by rw [List.length_drop]; omega⟩, fun x28 h28 => ⟨⟨trivial, rfl, trivial, trivial, trivial, fun h => absurd rfl h, by decide, by show (8 : Int) ≤ (vs.length : Int); omega, by show (vs.length : Int) ≤ _; omega, rfl, hsz⟩, fun _ x34 h34 => ?_⟩⟩
          have e34 : x34 = vs.drop 8 := by rw [h34]; exact slc
          subst e34
          have hnr := num_rng (vs := vs.drop 4)
          rw [← h28] at hnr
          have hf := fill_rng x28
          have hb8 : BLs (vs.drop 8) := BLs_drop hb 8
          have hsz8 : ∀ v, List.Mem v (vs.drop 8) → V.sz v = 1 := sz_byte hb8
          generalize hB : vs.drop 8 = b at *
          have hbl : b.length = vs.length - 8 := by rw [← hB, List.length_drop]
          intro _ x37 h37 x39 h39
          subst h37
          have err3 : x28 + fillI x28 > (b.length : Int) → errS acc vs = 3 := fun h => by
            unfold errS
            rw [if_neg h8l, hB, ← h28, if_pos h]
          refine ⟨fun h => ret 3 (err3 ?_) (by decide), fun h40 => ⟨⟨by omega, by omega⟩, fun x43 h43 x45 h45 => ?_⟩⟩
          · rw [h] at h39
            have := of_decide_eq_true h39.symm
            omega
          subst h43
          rw [IntKind.wrap_i64] at h45
          have e45 : x45 = x28 + fillI x28 := by omega
          subst e45
          intro _ x48 h48 x50 h50
          subst h48
          refine ⟨fun h => ret 3 (err3 ?_) (by decide), fun h51 => ?_⟩
          · rw [h] at h50
            exact of_decide_eq_true h50.symm
          rw [h51] at h50
          have hle : ¬ x28 + fillI x28 > (b.length : Int) := of_decide_eq_false h50.symm
          refine ⟨⟨trivial, rfl, trivial, trivial, trivial, fun _ => ⟨by simp, rfl⟩, by decide, by show (0 : Int) ≤ _; omega, by omega, rfl, hsz8⟩, fun x57 h57 => ⟨⟨by omega, by omega⟩, fun x59 h59 x61 h61 => ⟨⟨by omega, by omega⟩, fun x63 h63 x65 h65 => ?_⟩⟩⟩
          rw [IntKind.wrap_i64] at h61 h65
          subst h59; subst h63
          have e61 : x61 = x28 + fillI x28 := by omega
          have e65 : x65 = x28 + fillI x28 := by omega
          subst e61; subst e65
          have e57 : x57 = b.take x28.toNat := by rw [h57]; congr 1; show (x28 - 0).toNat = _; omega
          subst e57
          refine ⟨⟨trivial, rfl, trivial, trivial, trivial, fun _ => ⟨by simp, rfl⟩, by omega, by omega, by omega, rfl, hsz8⟩, fun x70 h70 x72 h72 => ?_⟩
          have e70 : x70 = (b.drop x28.toNat).take (fillI x28).toNat := by rw [h70]; congr 1; omega
          have hpl : x70.length = (fillI x28).toNat := by rw [e70, List.length_take, List.length_drop]; omega
          refine ⟨fun h => ret 4 ?_ (by decide), fun h73 => ⟨⟨rfl, rfl, rfl, trivial, (fun h => by cases h), fun v hv => ?_⟩, fun x78 h78 x80 h80 => ⟨⟨by omega, by omega, by omega, by omega, rfl⟩, fun x82 h82 => ⟨⟨rfl, rfl, rfl, trivial, (fun h => by cases h), fun v hv => ?_⟩, fun x86 h86 x88 h88 => ?_⟩⟩⟩⟩
          · unfold errS
            rw [if_neg h8l, hB, ← h28, if_neg hle, ← h21, if_pos]
            rw [h72] at h
            simpa using h
          · rw [e70] at hv; exact hb8 v (List.mem_of_mem_drop (List.mem_of_mem_take hv))
          · rw [h82] at hv; exact BLs_rep _ v hv
          have hnm : ¬ namedS x21 = false := by
            intro h
            rw [h72, h] at h73
            simp at h73
          have hbad : x88 = badB b x28.toNat := by
            rw [h88, h78, h86, h82, e70]
            unfold badB
            have e1 : ((x28.toNat : Nat) : Int) = x28 := by omega
            have e2 : x80.toNat = (fillI x28).toNat := by omega
            rw [e1, e2]
          refine ⟨fun h => ret 4 ?_ (by decide), fun h89 => ⟨⟨rfl, hca⟩, fun h90 => ret 6 ?_ (by decide), fun h90 => ?_⟩⟩
          · unfold errS
            rw [if_neg h8l, hB, ← h28, if_neg hle, ← h21, if_neg hnm, if_pos (by rw [← hbad]; exact h)]
          · unfold errS
            rw [if_neg h8l, hB, ← h28, if_neg hle, ← h21, if_neg hnm, if_neg (by rw [← hbad, h89]; simp), if_pos h90]
          have herr : errS acc vs = 0 := by
            unfold errS
            rw [if_neg h8l, hB, ← h28, if_neg hle, ← h21, if_neg hnm, if_neg (by rw [← hbad, h89]; simp), if_neg (by rw [h90]; simp)]
          have hstep := parse_step hn herr
          have hchk : chkS vs = .agg [.str x21, .str ((b.take x28.toNat).map byteV)] := by unfold chkS chV; rw [hB, ← h28, ← h21]
          have hnxt : nxtS vs = b.drop (x28 + fillI x28).toNat := by unfold nxtS; rw [hB, ← h28]
          rw [hchk, hnxt] at hstep
          refine ⟨⟨rfl, rfl, rfl, trivial, (fun h => by cases h), fun v hv => hb8 v (List.mem_of_mem_take hv)⟩, fun _ x97 h97 => ⟨⟨rfl, rfl, ⟨rfl, trivial⟩, fun v hv => ?_, rfl, rfl, 32, rfl, ?_, ?_⟩, fun _ => ⟨⟨by omega, by omega⟩, fun x103 h103 x105 h105 => ?_⟩⟩⟩
          · rcases List.mem_cons.1 hv with rfl | hv
            · rfl
            · cases hv
          · show (acc.length + 1) * 32 ≤ _; omega
          · show acc.length + 1 ≤ _; omega
          subst h103
          rw [IntKind.wrap_i64] at h105
          have e105 : x105 = x28 + fillI x28 := by omega
          subst e105
          refine ⟨⟨trivial, rfl, trivial, trivial, trivial, fun h => absurd rfl h, by omega, by show x28 + fillI x28 ≤ (b.length : Int); omega, by show (b.length : Int) ≤ _; omega, rfl, hsz8⟩, fun _ x111 h111 => ?_⟩
          have e111 : x111 = b.drop (x28 + fillI x28).toNat := by rw [h111]; exact slc2 (by omega)
          subst e111
          subst h97
          have hca' : CLs (acc ++ [.agg [.str x21, .str ((b.take x28.toNat).map byteV)]]) := fun u hu => by
            rcases List.mem_append.1 hu with hu | hu
            · exact hca u hu
            · simp at hu; subst hu; exact ⟨_, _, rfl⟩
          refine ⟨fun v hv => by (obtain ⟨a, c, rfl⟩ := hca' v hv; rfl), (acc ++ [.agg [.str x21, .str ((b.take x28.toNat).map byteV)]], b.drop (x28 + fillI x28).toNat), ?_, rfl, ?_, BLs_drop hb8 _, hca', ?_, by rw [hp, hstep]⟩
          · show [_, V.sl 1034 (acc.length + 1)] = _
            simp
          · show (b.drop (x28 + fillI x28).toNat).length < vs.length
            rw [List.length_drop]; omega
          · show 8 * (acc ++ [_]).length + (b.drop (x28 + fillI x28).toNat).length ≤ 65536
            rw [List.length_append, List.length_drop]
            show 8 * (acc.length + 1) + _ ≤ _
            omega) ([], v0) ⟨hb0, (fun u hu => by cases hu), by show 8 * 0 + v0.length ≤ 65536; omega, rfl⟩
    exact hL.weak hw
  · exact h.elim
theorem parseF_bad : ∀ (n : Nat) (acc vs : List V), (parseF n acc vs).2 ≠ 0 → (parseF n acc vs).1 = []
  | 0, acc, vs, h => absurd rfl h
  | n + 1, acc, vs, h => by
    simp only [parseF] at h ⊢
    split at h
    · exact absurd rfl h
    · rename_i h0
      rw [if_neg h0]
      split at h
      · rename_i h1
        rw [if_pos h1]
        exact parseF_bad n _ _ h
      · rename_i h1
        rw [if_neg h1]
theorem parse_bad (n : Nat) (acc vs : List V) (h : (parseR acc vs).2 ≠ 0) : (parseR acc vs).1 = [] := parseF_bad _ _ _ h
theorem c11 (vs : List V) (hb : BLs vs) : CallP Try.prog 11 [.list false vs] (.tup [.list false (parseS vs).1, .int .i64 (parseS vs).2]) := by
  refine call_loops sp11_ok Try.func11 Try.ntmps11 (by kernel_rfl) (loopsOf_ok ?_) ((n11 vs _).mpr ?_)
  · have e : loopsOf 0 (bodyOf Try.f11) = [lcode Try.f11 0] := by kernel_rfl
    rw [e]
    intro p hp
    simp only [List.mem_cons, List.not_mem_nil, or_false] at hp
    subst hp
    exact lsAdd_hit lp11
  · have hsz : ∀ v, List.Mem v vs → V.sz v = 1 := sz_byte hb
    intro _ x1 h1 x3 h3
    subst h1
    unfold parseS
    refine ⟨fun h => ?_, fun h => ?_⟩
    · rw [h] at h3
      rw [if_pos (of_decide_eq_true h3.symm)]
    rw [h] at h3
    rw [if_neg (of_decide_eq_false h3.symm)]
    intro _ x8 h8 x10 h10
    subst h8
    refine ⟨fun h => ?_, fun h => ?_⟩
    · rw [h] at h10
      rw [if_pos (of_decide_eq_true h10.symm)]
    rw [h] at h10
    have h12 := of_decide_eq_false h10.symm
    have h65 := of_decide_eq_false h3.symm
    rw [if_neg h12]
    refine ⟨⟨trivial, rfl, trivial, trivial, trivial, fun h => absurd rfl h, by decide, by decide, by show (4 : Int) ≤ _; omega, rfl, hsz⟩, fun _ x18 h18 => ⟨⟨rfl, rfl, rfl, trivial, (fun h => by cases h), fun v hv => ?_⟩, fun _ x23 h23 x25 h25 => ?_⟩⟩
    · rw [h18] at hv; exact hb v (List.mem_of_mem_take hv)
    have e18 : x18 = vs.take 4 := by rw [h18]; rfl
    subst e18; subst h23
    refine ⟨fun h => ?_, fun h => ?_⟩
    · rw [h] at h25
      have : hdOk vs = false := by unfold hdOk; rw [if_pos h25.symm]
      rw [if_pos this]
    rw [h] at h25
    refine ⟨⟨trivial, rfl, trivial, trivial, trivial, fun h => absurd rfl h, by decide, by decide, by show (12 : Int) ≤ _; omega, rfl, hsz⟩, fun _ x33 h33 => ⟨⟨rfl, rfl, rfl, trivial, (fun h => by cases h), fun v hv => ?_⟩, fun _ x38 h38 x40 h40 => ?_⟩⟩
    · rw [h33] at hv; exact hb v (List.mem_of_mem_drop (List.mem_of_mem_take hv))
    have e33 : x33 = (vs.drop 8).take 4 := by rw [h33]; rfl
    subst e33; subst h38
    have hn1 : ¬ ((vs.take 4).map byteV != [70, 79, 82, 49]) = true := by rw [← h25]; simp
    refine ⟨fun h => ?_, fun h => ?_⟩
    · rw [h] at h40
      have : hdOk vs = false := by unfold hdOk; rw [if_neg hn1, if_pos h40.symm]
      rw [if_pos this]
    rw [h] at h40
    have hn2 : ¬ (((vs.drop 8).take 4).map byteV != [66, 69, 65, 77]) = true := by rw [← h40]; simp
    refine ⟨⟨trivial, rfl, trivial, trivial, trivial, fun h => absurd rfl h, by decide, by show (4 : Int) ≤ (vs.length : Int); omega, by show (vs.length : Int) ≤ _; omega, rfl, hsz⟩, fun _ x48 h48 => ?_⟩
    have e48 : x48 = vs.drop 4 := by rw [h48]; exact slc
    subst e48
    refine ⟨⟨BLs_drop hb 4, by rw [List.length_drop]; omega⟩, fun x50 h50 _ x51 h51 x53 h53 x55 h55 => ?_⟩
    subst h51; subst h50
    have e53 : x53 = (vs.length : Int) - 8 := by rw [h53, IntKind.wrap_i64]; omega
    subst e53
    refine ⟨fun h => ?_, fun h => ?_⟩
    · rw [h] at h55
      have : hdOk vs = false := by
        unfold hdOk
        rw [if_neg hn1, if_neg hn2]
        have h55 : (numS (vs.drop 4) != (vs.length : Int) - 8) = true := h55.symm
        simpa using h55
      rw [if_pos this]
    rw [h] at h55
    have hok : ¬ hdOk vs = false := by
      unfold hdOk
      rw [if_neg hn1, if_neg hn2]
      have h55 : (numS (vs.drop 4) != (vs.length : Int) - 8) = false := h55.symm
      simpa using h55
    rw [if_neg hok]
    refine ⟨⟨trivial, rfl, trivial, trivial, trivial, fun h => absurd rfl h, by decide, by show (12 : Int) ≤ (vs.length : Int); omega, by show (vs.length : Int) ≤ _; omega, rfl, hsz⟩, fun _ x63 h63 => ?_⟩
    have e63 : x63 = vs.drop 12 := by rw [h63]; exact slc
    subst e63
    refine ⟨BLs_drop hb 12, by rw [List.length_drop]; omega, fun h => ⟨rfl, ?_⟩, fun h => ?_⟩
    · rw [h]
    · have : (parseR [] (vs.drop 12)).1 = [] := parse_bad 0 _ _ h
      rw [this]
theorem b11_ok (args : List V) (k : V → Prop) (h : b11 args k) : ∃ r, CallP Try.prog 11 args r ∧ k r := by
  unfold b11 at h
  split at h
  · exact ⟨_, c11 _ h.1, h.2 _ _ rfl⟩
  · exact h.elim
end GoL
