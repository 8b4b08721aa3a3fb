/- A part of the proof: a logic for programs of this kind, proved sound over the model; contracts of functions; plain laws. -/
import Derived.Test.YtkkmiicadfmfdaaXN
import Derived.Test.YtkkmiicadfmfdaaSP
set_option linter.all false
open Go Go.Proofs
namespace GoL
set_option linter.unusedVariables false
set_option linter.unusedSimpArgs false
set_option maxRecDepth 8000
theorem noids_c {c : List V} (h : CLs c) : NoIds c := fun v hv => by obtain ⟨a, b, rfl⟩ := h v hv; rfl
theorem szs_c {c : List V} (h : CLs c) {j : Nat} (hj : j ≤ c.length) : V.szs (c.take j) = j * 2 := by
  have h5 : V.szs (c.take j) = (c.take j).length * 2 := szs_const fun v hv => by obtain ⟨a, b, rfl⟩ := h v (List.mem_of_mem_take hv); rfl
  rw [h5, List.length_take]; omega
theorem lp18s : LsOk Try.prog 25 1000 [0, 1, 6] [0] ent18s (lcode Try.f18 0).2 := by
  intro vs ks K h
  unfold ent18s at h
  split at h
  · rename_i len s i ls
    obtain ⟨rfl, rfl, hc, hK, hK2⟩ := h
    have hno := noids_c hc
    refine loop_rule (N := 25) (c := (lcode Try.f18 0).2) (hints := noHint) (prs := prsOf []) (Ls := noLs) (Sp := sp18) spNil_ok ends18s (γ := Int) (fun i => [.sl 0 ls.length, .str s, .int .i64 i]) (fun _ => [⟨some 36, false, .agg ls⟩]) (fun i => ls.length - i.toNat)
      (fun i => 0 ≤ i ∧ i ≤ ls.length ∧ findS s ls = findS s (ls.drop i.toNat)) K (noLoop_ok (by kernel_rfl)) ?_ 0 ⟨by omega, by omega, rfl⟩
    rintro i ⟨h0, h1, h2⟩
    refine (nl18s s ls i _ _ _).mpr ?_
    refine ⟨rfl, fun _ x1 hx1 x3 hx3 => ?_⟩
    subst hx1; subst hx3
    refine ⟨fun h3 => ?_, fun h3 => ?_⟩
    · simp only [decide_eq_true_eq] at h3
      have hi : i.toNat < ls.length := by omega
      have e1 : (i + 1).toNat = i.toNat + 1 := by omega
      obtain ⟨n, d, g1, g2, g3⟩ := hc.at h0 h3
      have hg := getVn hi
      rw [show ((i.toNat : Nat) : Int) = i by omega] at hg
      rw [hg] at g1 g2 g3
      rw [dropc hi] at h2
      simp only [findS, g2, g3] at h2
      have hoff := szs_c hc (j := i.toNat) (by omega)
      refine ⟨rfl, h0, h3, rfl, rfl, n, ?_, rfl, ?_, fun x7 h7 => ⟨fun h4 => ⟨rfl, h0, h3, rfl, rfl, d, ?_, rfl, ?_, hno, ?_⟩, fun h4 z hz => ⟨hno, ?_⟩⟩⟩
      · show V.sub (.agg ls) [i.toNat, 0] = _
        simp only [V.sub, List.getElem?_eq_getElem hi, g1]
        rfl
      · show V.off (.agg ls) [i.toNat, 0] = _
        simp only [V.off, List.getElem?_eq_getElem hi, g1, hoff]
        rfl
      · show V.sub (.agg ls) [i.toNat, 1] = _
        simp only [V.sub, List.getElem?_eq_getElem hi, g1]
        rfl
      · show V.off (.agg ls) [i.toNat, 1] = _
        simp only [V.off, List.getElem?_eq_getElem hi, g1, hoff]
        rfl
      · rw [← h7, h4] at h2
        simp only [if_true] at h2
        have := hK2 (by rw [h2])
        rw [h2] at this
        exact this
      · rw [← h7, h4] at h2
        simp only [Bool.false_eq_true, if_false] at h2
        have hz' : z = i + 1 := by rw [hz, IntKind.wrap_i64]; omega
        subst hz'
        refine ⟨i + 1, rfl, rfl, ?_, by omega, by omega, ?_⟩
        · show ls.length - (i + 1).toNat < ls.length - i.toNat
          omega
        · rw [h2, e1]
    · simp only [decide_eq_false_iff_not] at h3
      have e : ls.drop i.toNat = [] := List.drop_eq_nil_of_le (by omega)
      rw [e] at h2
      exact ⟨hno, hK (by rw [h2]; rfl)⟩
  · exact h.elim
theorem c18s (s : List UInt8) (ls : List V) (hc : CLs ls) : CallH Try.prog 18 [.sl 0 ls.length, .str s] (lkB [(0, ⟨some 36, false, .agg ls⟩)]) (.tup [.str (findS s ls).1, .bool (findS s ls).2]) (lkB [(0, ⟨some 36, false, .agg ls⟩)]) := by
  refine callH_go (η := [(0, ⟨some 36, false, .agg ls⟩)]) (ids := [0]) (ks := [⟨some 36, false, .agg ls⟩]) (hint := none) (Sp := sp18) spNil_ok Try.func18 Try.ntmps18 (by kernel_rfl) (loopsOf_ok ?_) ((n18s s ls _ _).mpr ?_)
  · have e : loopsOf 0 (bodyOf Try.f18) = [lcode Try.f18 0] := by kernel_rfl
    rw [e]
    intro p hp
    simp only [List.mem_cons, List.not_mem_nil, or_false] at hp
    subst hp
    exact lsAdd_hit lp18s
  · refine ⟨noids_c hc, rfl, rfl, hc, fun h => ⟨?_, rfl⟩, fun h => ⟨by rw [h], rfl⟩⟩
    rcases idx_spec s ls 0 (by omega) with ⟨a, b, c⟩ | ⟨k, hk, a, b, c⟩
    · rw [b]
    · rw [b] at h; cases h
theorem h18_ok : HOk Try.prog 18 h18 := by
  intro hvc rest H1 id k h
  unfold h18 at h
  split at h
  · rename_i c len s
    split at h
    · rename_i ls e
      obtain ⟨⟨rfl, hc⟩, h3⟩ := h
      exact ⟨_, _, hsem_look e rfl (c18s s ls hc), h3 _ _ rfl⟩
    · exact h.elim
  · exact h.elim
theorem sp25_ok : SpOk Try.prog sp25 := shAdd_ok h18_ok (spAdd_ok b24_ok (spAdd_ok b26_ok spNil_ok))
theorem bAt_rng (vs : List V) (i : Nat) : 0 ≤ bAt vs i ∧ bAt vs i < 256 := by
  unfold bAt
  have := (byteV (vs.getD i .junk)).toNat_lt
  omega
theorem sumB_rng (vs : List V) : ∀ (k i : Nat), 0 ≤ sumB vs i k ∧ sumB vs i k ≤ k * 256
  | 0, i => by simp [sumB]
  | k + 1, i => by
    have h1 := sumB_rng vs k (i + 1)
    have h2 := bAt_rng vs i
    simp only [sumB]
    omega
theorem sumB_zero {vs : List V} (hb : BLs vs) : ∀ (k i : Nat), i + k ≤ vs.length → (sumB vs i k = 0 ↔ (vs.drop i).take k = List.replicate k (V.int .u8 0))
  | 0, i, _ => by simp [sumB]
  | k + 1, i, h => by
    have hi : i < vs.length := by omega
    have ih := sumB_zero hb k (i + 1) (by omega)
    have h1 := sumB_rng vs k (i + 1)
    have h2 := bAt_rng vs i
    have hbi : vs[i] = .int .u8 (bAt vs i) := by
      have := (byte_at hb hi).1
      rw [getVn hi] at this
      exact this
    rw [dropc hi, List.take_succ_cons, List.replicate_succ]
    simp only [sumB]
    constructor
    · intro h
      have e1 : bAt vs i = 0 := by omega
      have e2 : sumB vs (i + 1) k = 0 := by omega
      rw [hbi, e1, ih.1 e2]
    · intro h
      rw [hbi] at h
      have h3 := List.cons.inj h
      have e1 : bAt vs i = 0 := by
        have := h3.1
        simpa using this
      have e2 := ih.2 h3.2
      omega
theorem bad_sum {vs : List V} {n : Int} (hb : BLs vs) (hn : 0 ≤ n) (hl : n + fillI n + 8 ≤ vs.length) : decide (sumB vs (n + 8).toNat (fillI n).toNat > 0) = badB (vs.drop 8) n.toNat := by
  have hf := fill_rng n
  have hz := sumB_zero hb (fillI n).toNat (n + 8).toNat (by omega)
  have hr := sumB_rng vs (fillI n).toNat (n + 8).toNat
  have en : ((n.toNat : Nat) : Int) = n := by omega
  have ed : (vs.drop 8).drop n.toNat = vs.drop (n + 8).toNat := by rw [List.drop_drop]; congr 1; omega
  unfold badB
  rw [en, ed]
  by_cases h : sumB vs (n + 8).toNat (fillI n).toNat = 0
  · rw [hz.1 h, h]
    simp
  · have h1 : sumB vs (n + 8).toNat (fillI n).toNat > 0 := by omega
    rw [decide_eq_true h1]
    symm
    rw [bne_iff_ne]
    intro he
    apply h
    rw [hz]
    exact rep_of (BLs_take (BLs_drop hb _) _) (by rw [List.length_take, List.length_drop]; omega) he
theorem lp25 : LsOk Try.prog 77 1034 [0, 1, 4, 8, 9, 10, 11] [0, 1000, 1029] ent25 (lcode Try.f25 0).2 := by
  intro vs0 ks K h
  unfold ent25 at h
  split at h
  · rename_i vs len a f i acc z1 z2 nm d
    obtain ⟨hb, rfl, rfl, h0, h1, h2, h3, hc, hK⟩ := h
    have hno := noids_c hc
    refine loop_rule (N := 77) (c := (lcode Try.f25 0).2) (hints := noHint) (prs := (prsOf [(7, [[], [0], [1, 0], [], [], [4], [3, 5, 4], [6, 3, 5, 4], [2, 1, 0, 7, 6, 3, 5, 4], [], [9, 8, 2, 1, 0, 7, 6, 3, 5, 4]]), (18, [[], [], [], [2], [1, 3, 2], [0], [4, 1, 3, 2, 5, 0], [6, 4, 1, 3, 2, 5, 0]])])) (Ls := noLs) sp25_ok ends25_0 (γ := Int × Int) (fun g => [.list false vs, .sl 0 acc.length, .ptr 1000 0 [], .int .i64 a, .ptr 1029 0 [], .int .i64 g.1, .int .i64 g.2]) (fun _ => [⟨some 36, false, .agg acc⟩, ⟨none, false, .agg [.str z1, .str z2]⟩, ⟨none, false, .agg [.str nm, .str d]⟩]) (fun g => (a - g.2).toNat)
      (fun g => i ≤ g.2 ∧ g.2 ≤ a ∧ 0 ≤ g.1 ∧ g.1 ≤ g.2 * 256 ∧ sumB vs (i + 8).toNat (a - i).toNat = g.1 + sumB vs (g.2 + 8).toNat (a - g.2).toNat) K (noLoop_ok (by kernel_rfl)) ?_ (0, i) ⟨by omega, by omega, by omega, by simp only; omega, by simp⟩
    rintro ⟨f, j⟩ ⟨g0, g1, g2, g3, g4⟩
    simp only at g0 g1 g2 g3 g4
    refine (nl25_0 vs acc a f j z1 z2 nm d _ _ _).mpr ?_
    intro x0 hx0; subst hx0
    refine ⟨fun h5 x3 h3' => ?_, fun h5 => ?_⟩
    · simp only [decide_eq_true_eq] at h5
      have e3 : x3 = j + 8 := by rw [h3', IntKind.wrap_i64]; omega
      subst e3
      have hlt : (j + 8).toNat < vs.length := by omega
      have hba := byte_at hb hlt
      rw [show (((j + 8).toNat : Nat) : Int) = j + 8 by omega] at hba
      refine ⟨by omega, by omega, bAt vs (j + 8).toNat, hba.1, rfl, fun _ x7 h7 x9 h9 x11 h11 => ⟨hno, ?_⟩⟩
      have e7 : x7 = bAt vs (j + 8).toNat := by rw [h7, IntKind.wrap_i64]; omega
      subst e7
      have e9 : x9 = f + bAt vs (j + 8).toNat := by rw [h9, IntKind.wrap_i64]; omega
      subst e9
      have e11 : x11 = j + 1 := by rw [h11, IntKind.wrap_i64]; omega
      subst e11
      have es : (a - j).toNat = (a - (j + 1)).toNat + 1 := by omega
      have e8 : (j + 1 + 8).toNat = (j + 8).toNat + 1 := by omega
      rw [es] at g4
      simp only [sumB] at g4
      refine ⟨(f + bAt vs (j + 8).toNat, j + 1), rfl, rfl, ?_, by show i ≤ j + 1; omega, by show j + 1 ≤ a; omega, by show 0 ≤ f + _; omega, by show f + _ ≤ (j + 1) * 256; omega, ?_⟩
      · show (a - (j + 1)).toNat < (a - j).toNat
        omega
      · show _ = f + bAt vs (j + 8).toNat + sumB vs (j + 1 + 8).toNat (a - (j + 1)).toNat
        rw [e8, g4]
        omega
    · simp only [decide_eq_false_iff_not] at h5
      have e : (a - j).toNat = 0 := by omega
      rw [e] at g4
      simp only [sumB] at g4
      exact ⟨hno, hK f (by omega)⟩
  · exact h.elim
theorem c25s (vs acc : List V) (hb : BLs vs) (hc : CLs acc) (hl : vs.length ≤ 65536) : ∃ r : V, CallH Try.prog 25 [.list false vs, .sl 0 acc.length] (lkB [(0, ⟨some 36, false, .agg acc⟩)]) r (lkB [(0, ⟨some 36, false, .agg acc⟩)]) ∧ r.idsB = [] ∧
    ((errS acc vs = 0 ∧ ∃ nm d, chkS vs = .agg [.str nm, .str d] ∧ r = .tup [.agg [.str nm, .str d], .list false (nxtS vs), .int .i64 0]) ∨ (errS acc vs ≠ 0 ∧ r = .tup [.agg [.str [], .str []], .nils, .int .i64 (errS acc vs)])) := by
  have go : ∀ (r : V), wC Try.prog sp25 77 noHint (prsOf [(7, [[], [0], [1, 0], [], [], [4], [3, 5, 4], [6, 3, 5, 4], [2, 1, 0, 7, 6, 3, 5, 4], [], [9, 8, 2, 1, 0, 7, 6, 3, 5, 4]]), (18, [[], [], [], [2], [1, 3, 2], [0], [4, 1, 3, 2, 5, 0], [6, 4, 1, 3, 2, 5, 0]])]) ls25 0 (bodyOf Try.f25) 1000 (initL [.list false vs, .sl 0 acc.length] 0) [(0, ⟨some 36, false, .agg acc⟩)] (finH Try.prog none Try.f25.results.toList [0] fun v bs => r = v ∧ [(⟨some 36, false, .agg acc⟩ : Blk)] = bs) → CallH Try.prog 25 [.list false vs, .sl 0 acc.length] (lkB [(0, ⟨some 36, false, .agg acc⟩)]) r (lkB [(0, ⟨some 36, false, .agg acc⟩)]) := by
    intro r hw
    refine callH_go (η := [(0, ⟨some 36, false, .agg acc⟩)]) (ids := [0]) (ks := [⟨some 36, false, .agg acc⟩]) (hint := none) sp25_ok Try.func25 Try.ntmps25 (by kernel_rfl) (loopsOf_ok ?_) hw
    have e : loopsOf 0 (bodyOf Try.f25) = [lcode Try.f25 0] := by kernel_rfl
    rw [e]
    intro p hp
    simp only [List.mem_cons, List.not_mem_nil, or_false] at hp
    subst hp
    exact lsAdd_hit lp25
  have hsz : ∀ v, List.Mem v vs → V.sz v = 1 := sz_byte hb
  have hb4 : BLs (vs.drop 4) := BLs_drop hb 4
  have hnr := num_rng (vs := vs.drop 4)
  -- the number is read off four bytes
  have hnum : ¬ vs.length < 8 → numS ((vs.drop 4).take 4) = numS (vs.drop 4) := by
    intro h8
    have f4 := four_num hb4 (by rw [List.length_drop]; omega)
    have := num_four hnr.1 hnr.2 []
    rw [List.append_nil, f4] at this
    exact this
  let OK : V := .tup [.agg [.str ((vs.take 4).map byteV), .str (((vs.drop 8).take (numS (vs.drop 4)).toNat).map byteV)], .list false (nxtS vs), .int .i64 0]
  let R : V := if errS acc vs = 0 then OK else .tup [.agg [.str [], .str []], .nils, .int .i64 (errS acc vs)]
  have rs : ∀ e : Int, errS acc vs = e → e ≠ 0 → R = .tup [.agg [.str [], .str []], .nils, .int .i64 e] := fun e he hne => by
    show (if errS acc vs = 0 then OK else _) = _
    rw [if_neg (by rw [he]; exact hne), he]
  have rk : errS acc vs = 0 → R = OK := fun he => by
    show (if errS acc vs = 0 then OK else _) = _
    rw [if_pos he]
  have main := go R ((n25 vs acc _ _).mpr (by
    intro _ x1 h1 x3 h3
    subst h1
    refine ⟨fun h => ⟨rs 3 ?_ (by decide), rfl⟩, fun h => ?_⟩
    · rw [h] at h3
      have := of_decide_eq_true h3.symm
      unfold errS
      rw [if_pos (by omega)]
    rw [h] at h3
    have h8 : ¬ vs.length < 8 := by have := of_decide_eq_false h3.symm; omega
    refine ⟨⟨trivial, rfl, trivial, trivial, trivial, fun h => absurd rfl h, by decide, by decide, by show (8 : Int) ≤ _; omega, rfl, hsz⟩, fun _ x11 h11 => ?_⟩
    have e11 : x11 = (vs.drop 4).take 4 := by rw [h11]; rfl
    subst e11
    refine ⟨⟨BLs_take hb4 4, by rw [List.length_take, List.length_drop]; omega⟩, fun x13 h13 x15 h15 => ⟨⟨rfl, fun h => by cases h⟩, fun _ x19 h19 x21 h21 _ x24 h24 x26 h26 x28 h28 => ?_⟩⟩
    rw [hnum h8] at h13
    rw [← h13] at hnr
    have hf := fill_rng x13
    rw [IntKind.wrap_i64] at h15 h19 h21 h26
    have e15 : x15 = x13 + 3 := by omega
    rw [e15, Int.tdiv_eq_ediv_of_nonneg (by omega)] at h19
    have e21 : x21 = x13 + fillI x13 := by unfold fillI; omega
    subst e21
    subst h24
    have e26 : x26 = (vs.length : Int) - 8 := by omega
    subst e26
    have hdl : ((vs.drop 8).length : Int) = (vs.length : Int) - 8 := by rw [List.length_drop]; omega
    refine ⟨fun h => ⟨rs 3 ?_ (by decide), rfl⟩, fun h => ?_⟩
    · rw [h] at h28
      have := of_decide_eq_true h28.symm
      unfold errS
      rw [if_neg h8, ← h13, if_pos (by omega)]
    rw [h] at h28
    have h28 := of_decide_eq_false h28.symm
    have hle : ¬ x13 + fillI x13 > ((vs.drop 8).length : Int) := by omega
    refine ⟨⟨trivial, rfl, trivial, trivial, trivial, fun h => absurd rfl h, by decide, by decide, by show (4 : Int) ≤ _; omega, rfl, hsz⟩, fun x35 h35 => ?_⟩
    have e35 : x35 = vs.take 4 := by rw [h35]; rfl
    subst e35
    refine ⟨⟨rfl, rfl, rfl, trivial, (fun h => by cases h), fun v hv => hb v (List.mem_of_mem_take hv)⟩, fun x39 h39 x41 h41 => ?_⟩
    have e41 : x41 = x13 + 8 := by rw [h41, IntKind.wrap_i64]; omega
    subst e41
    refine ⟨⟨trivial, rfl, trivial, trivial, trivial, fun h => absurd rfl h, by decide, by show (8 : Int) ≤ _; omega, by omega, rfl, hsz⟩, fun x46 h46 => ?_⟩
    have e46 : x46 = (vs.drop 8).take x13.toNat := by
      rw [h46]
      have e1 : (x13 + 8 - Int.ofNat 8).toNat = x13.toNat := by show (x13 + 8 - 8).toNat = _; omega
      rw [e1]
      rfl
    subst e46
    refine ⟨⟨rfl, rfl, rfl, trivial, (fun h => by cases h), fun v hv => hb v (List.mem_of_mem_drop (List.mem_of_mem_take hv))⟩, fun x50 h50 => ⟨noids_c hc, hb, rfl, rfl, hnr.1, by omega, by omega, hl, hc, fun x52 h52 x54 h54 => ?_⟩⟩
    have hbs := bad_sum hb hnr.1 (by omega)
    have e52 : x52 = sumB vs (x13 + 8).toNat (fillI x13).toNat := by rw [h52]; congr 1; omega
    rw [← e52] at hbs
    have hnmE : namedS ((vs.take 4).map byteV) = namedS x39 := by rw [h39]
    refine ⟨fun h => ⟨rs 4 ?_ (by decide), rfl⟩, fun h => ?_⟩
    · have hn : namedS x39 = false := by rw [h54] at h; simpa using h
      unfold errS
      rw [if_neg h8, ← h13, if_neg hle, hnmE, if_pos hn]
    have hn : ¬ namedS x39 = false := by rw [h54] at h; simpa using h
    intro x58 h58
    rw [hbs] at h58
    refine ⟨fun h => ⟨rs 4 ?_ (by decide), rfl⟩, fun h => ⟨⟨rfl, hc⟩, fun d62 b63 hfd => ⟨fun h2 => ⟨rs 6 ?_ (by decide), rfl⟩, fun h2 x67 h67 => ?_⟩⟩⟩
    · unfold errS
      rw [if_neg h8, ← h13, if_neg hle, hnmE, if_neg hn, if_pos (by rw [← h58]; exact h)]
    · have hh : hasS acc x39 = true := by rw [← find_snd, hfd]; exact h2
      unfold errS
      rw [if_neg h8, ← h13, if_neg hle, hnmE, if_neg hn, if_neg (by rw [← h58, h]; simp), ← h39, if_pos hh]
    have hh : ¬ hasS acc x39 = true := by rw [← find_snd, hfd]; simpa using h2
    have he0 : errS acc vs = 0 := by
      unfold errS
      rw [if_neg h8, ← h13, if_neg hle, hnmE, if_neg hn, if_neg (by rw [← h58, h]; simp), ← h39, if_neg hh]
    have e67 : x67 = 8 + (x13 + fillI x13) := by rw [h67, IntKind.wrap_i64]; omega
    subst e67
    refine ⟨⟨trivial, rfl, trivial, trivial, trivial, fun h => absurd rfl h, by omega, by show 8 + (x13 + fillI x13) ≤ (vs.length : Int); omega, by show (vs.length : Int) ≤ _; omega, rfl, hsz⟩, fun x72 h72 => ⟨?_, rfl⟩⟩
    have e72 : x72 = nxtS vs := by
      rw [h72, slc2 (by omega)]
      unfold nxtS
      rw [← h13, List.drop_drop]
      congr 1
      omega
    rw [rk he0, e72, h39, h50, h13]))
  by_cases he : errS acc vs = 0
  · refine ⟨OK, ?_, rfl, .inl ⟨he, _, _, ?_, rfl⟩⟩
    · rw [← rk he]; exact main
    · unfold chkS; rfl
  · refine ⟨.tup [.agg [.str [], .str []], .nils, .int .i64 (errS acc vs)], ?_, rfl, .inr ⟨he, rfl⟩⟩
    rw [← rs _ rfl he]
    exact main
theorem h25_ok : HOk Try.prog 25 h25 := by
  intro hvc rest H1 id k h
  unfold h25 at h
  split at h
  · rename_i vs c len
    split at h
    · rename_i acc e
      obtain ⟨⟨rfl, hb, hc, hl⟩, h3⟩ := h
      obtain ⟨r, h4, h5, h6⟩ := c25s vs acc hb hc hl
      obtain ⟨g1, g2⟩ := h3 _ rfl
      rcases h6 with ⟨he, nm, d, hch, rfl⟩ | ⟨he, rfl⟩
      · exact ⟨_, _, hsem_look2 (x := .list false vs) (rest := []) e rfl h5 h4, g1 he nm d _ hch rfl⟩
      · exact ⟨_, _, hsem_look2 (x := .list false vs) (rest := []) e rfl h5 h4, g2 he⟩
    · exact h.elim
  · exact h.elim
theorem sp15_ok : SpOk Try.prog sp15 := shAdd_ok h25_ok (spAdd_ok b24_ok spNil_ok)
theorem lp15 : LsOk Try.prog 58 1034 [4, 5] [] ent15 (lcode Try.f15 0).2 := by
  intro vs ks K h
  unfold ent15 at h
  split at h
  · rename_i v0
    obtain ⟨hb0, hl0, hK, hK2⟩ := h
    refine TL_own (t := 4) (E := 36) rfl ?_
    have hc : cutK 1035 [4, 5] [1034] (fun vs ks => vs = [.sl 1034 0, .list false v0] ∧ ks = [⟨some 36, false, .agg []⟩]) 1035 ((4, .sl 1034 0) :: List.zip [4, 5] [.nils, .list false v0]) ((1034, ⟨some 36, false, .agg []⟩) :: List.zip [] []) := ⟨fun v hv => (by cases hv), rfl, rfl⟩
    obtain ⟨vs, ks, ⟨rfl, rfl⟩, hw⟩ := cutK_go hc
    have hL := loop_rule (N := 58) (c := (lcode Try.f15 0).2) (hints := noHint) (prs := prsOf []) (Ls := noLs) sp15_ok ends15_0 (γ := List V × List V) (fun g => [.sl 1034 g.1.length, .list false g.2]) (fun g => [⟨some 36, false, .agg g.1⟩]) (fun g => g.2.length)
      (fun g => BLs g.2 ∧ CLs g.1 ∧ 8 * g.1.length + g.2.length ≤ 65536 ∧ parseR [] v0 = parseR g.1 g.2) K (noLoop_ok (by kernel_rfl)) (fun g hg => by
        obtain ⟨acc, vs⟩ := g
        obtain ⟨hb, hca, hlen, hp⟩ := hg
        simp only at hb hca hlen hp
        refine (nl15_0 vs acc _ _ _).mpr ?_
        have hno := noids_c hca
        intro _ x1 h1 x3 h3
        subst h1
        refine ⟨fun h => ⟨⟨rfl, hb, hca, by omega⟩, fun e he => ?_⟩, fun h => ?_⟩
        · have he : e = errS acc vs := he
          have hn : vs.length ≠ 0 := by
            intro h0
            rw [h3, h0] at h
            simp at h
          refine ⟨fun he0 nm d w hch hnx x14 h14 => ?_, fun hne x23 h23 => ⟨fun _ => ?_, fun h23' => ?_⟩⟩
          · have hch : chkS vs = .agg [.str nm, .str d] := hch
            have hnx : w = nxtS vs := hnx
            subst h14
            rw [he] at he0
            have hstep := parse_step hn he0
            rw [hch, ← hnx] at hstep
            have h8 : ¬ vs.length < 8 := by
              intro h8
              unfold errS at he0
              rw [if_pos h8] at he0
              cases he0
            have hwl : w.length ≤ vs.length - 8 := by rw [hnx]; unfold nxtS; simp only [List.length_drop]; omega
            have hca' : CLs (acc ++ [.agg [.str nm, .str d]]) := fun u hu => by
              rcases List.mem_append.1 hu with hu | hu
              · exact hca u hu
              · simp at hu; subst hu; exact ⟨_, _, rfl⟩
            refine ⟨fun h => (by cases h), fun _ => ⟨⟨rfl, rfl, ⟨rfl, trivial⟩, fun v hv => ?_, rfl, rfl, 32, rfl, ?_, ?_⟩, fun _ => ⟨noids_c hca', (acc ++ [.agg [.str nm, .str d]], w), ?_, rfl, ?_, ?_, hca', ?_, by rw [hp, hstep]⟩⟩⟩
            · rcases List.mem_cons.1 hv with rfl | hv
              · rfl
              · cases hv
            · show (acc.length + 1) * 32 ≤ _; omega
            · show acc.length + 1 ≤ _; omega
            · show [V.sl 1034 (acc.length + 1), _] = _
              simp
            · show w.length < vs.length
              omega
            · rw [hnx]; exact BLs_drop (BLs_drop hb 8) _
            · show 8 * (acc ++ [_]).length + w.length ≤ 65536
              rw [List.length_append]
              show 8 * (acc.length + 1) + _ ≤ _
              omega
          · have hne' : errS acc vs ≠ 0 := by rw [← he]; exact hne
            have hpe := parse_err hn hne'
            rw [hpe, ← he] at hp
            have := hK2 (by rw [hp]; exact hne)
            rw [hp] at this
            exact this
          · rw [h23] at h23'
            have : e = 0 := by simpa using h23'
            exact absurd this hne
        · rw [h3] at h
          have hn : vs.length = 0 := by have := of_decide_eq_false h; omega
          rw [parse_nil hn] at hp
          have := hK (by rw [hp])
          rw [hp] at this
          exact ⟨hno, this⟩) ([], v0) ⟨hb0, (fun u hu => by cases hu), by show 8 * 0 + v0.length ≤ 65536; omega, rfl⟩
    exact hL.weak hw
  · exact h.elim
end GoL
