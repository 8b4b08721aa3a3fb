/- A part of the proof: a logic for programs of this kind, proved sound over the model; contracts of functions; plain laws. -/
import Derived.Test.YtkkmiicadfmfdaaJN
import Derived.Test.YtkkmiicadfmfdaaJA
set_option linter.all false
open Go Go.Proofs
namespace GoL
set_option linter.unusedVariables false
set_option linter.unusedSimpArgs false
set_option maxRecDepth 8000
theorem lp19 : LsOk Try.prog 28 1000 [0, 3, 9, 10] [] ent19 (lcode Try.f19 0).2 := by
  intro vs ks K h
  unfold ent19 at h
  split at h
  · rename_i s b n i
    obtain ⟨rfl, hl, rfl, hK, hK2⟩ := h
    generalize hR : (if b = true then s.all namB else false) = R at hK hK2
    refine loop_rule (hints := noHint) (prs := prsOf []) (Ls := noLs) (Sp := sp19) spNil_ok ends19_0 (γ := Int × Option Bool) (fun g => [.str s, match g.2 with | some b => .bool b | none => .gd true (.bool false), .int .i64 s.length, .int .i64 g.1]) (fun _ => []) (fun g => s.length - g.1.toNat)
      (fun g => 0 ≤ g.1 ∧ g.1 ≤ s.length ∧ R = (match g.2 with | some b => (if b = true then (s.drop g.1.toNat).all namB else false) | none => false)) K (noLoop_ok (by kernel_rfl)) ?_ (0, some b) ⟨by simp, by simp, by simp [hR]⟩
    rintro ⟨i, ob⟩ ⟨h0, h1, h2⟩
    simp only at h0 h1 h2
    cases ob with
    | some b =>
      refine (nl19_0 s b _ i _ _ _).mpr ?_
      intro x hx; subst hx
      have nx : i < s.length → ∀ (ob : Option Bool) (z : Int), z = IntKind.wrap .i64 (i + 1) → R = (match ob with | some b => (if b = true then (s.drop (i + 1).toNat).all namB else false) | none => false) →
          ∃ g' : Int × Option Bool, ([.str s, match ob with | some b => .bool b | none => .gd true (.bool false), .int .i64 s.length, .int .i64 z] : List V) = [.str s, match g'.2 with | some b => .bool b | none => .gd true (.bool false), .int .i64 s.length, .int .i64 g'.1] ∧ ([] : List Blk) = [] ∧ s.length - g'.1.toNat < s.length - i.toNat ∧ 0 ≤ g'.1 ∧ g'.1 ≤ s.length ∧ R = (match g'.2 with | some b => (if b = true then (s.drop g'.1.toNat).all namB else false) | none => false) := by
        intro hi ob z hz hr
        have hz' : z = i + 1 := by rw [hz, IntKind.wrap_i64]; omega
        subst hz'
        exact ⟨(i + 1, ob), rfl, rfl, by show s.length - (i + 1).toNat < s.length - i.toNat; omega, by show 0 ≤ i + 1; omega, by show i + 1 ≤ s.length; omega, hr⟩
      refine ⟨fun h3 => ?_, fun h3 => ?_⟩
      · simp only [decide_eq_true_eq] at h3
        have hi : i.toNat < s.length := by omega
        have e1 : (i + 1).toNat = i.toNat + 1 := by omega
        rw [dropc hi] at h2
        have hnb : namB s[i.toNat] = if decide ((s[i.toNat].toNat : Int) ≥ 32) then decide ((s[i.toNat].toNat : Int) ≤ 126) else false := rfl
        refine ⟨fun hb => ⟨h0, h3, fun x4 h4 x6 h6 => ?_⟩, fun hb z hz => ?_⟩
        · rw [getS hi] at h4
          subst h4
          simp only [hb, if_true, List.all_cons] at h2
          refine ⟨fun h7 => ⟨h0, h3, fun x9 h9 x11 h11 z hz => ?_⟩, fun h7 z hz => ?_⟩
          · rw [getS hi] at h9
            subst h9
            refine nx h3 (some x11) z hz ?_
            rw [h2, hnb, ← h6, h7, ← h11, e1]
            cases x11 <;> simp
          · refine nx h3 none z hz ?_
            rw [h2, hnb, ← h6, h7]
            simp
        · refine nx h3 none z hz ?_
          rw [h2, hb]; simp
      · simp only [decide_eq_false_iff_not] at h3
        have e : s.drop i.toNat = [] := List.drop_eq_nil_of_le (by omega)
        rw [e] at h2
        have : R = b := by rw [h2]; cases b <;> rfl
        subst this
        exact hK
    | none =>
      refine (nl19_1 s _ i _ _ _).mpr ?_
      intro x hx; subst hx
      have h2 : R = false := h2
      refine ⟨fun h3 z hz => ?_, fun h3 => ?_⟩
      · simp only [decide_eq_true_eq] at h3
        have hz' : z = i + 1 := by rw [hz, IntKind.wrap_i64]; omega
        subst hz'
        exact ⟨(i + 1, none), rfl, rfl, by show s.length - (i + 1).toNat < s.length - i.toNat; omega, by show 0 ≤ i + 1; omega, by show i + 1 ≤ s.length; omega, h2⟩
      · exact hK2 h2
  · exact h.elim
theorem c19 (s : List UInt8) : CallP Try.prog 19 [.str s] (.bool (namedS s)) := by
  refine call_loops (Sp := sp19) spNil_ok Try.func19 Try.ntmps19 (by kernel_rfl) (loopsOf_ok ?_) ((n19 s _).mpr ?_)
  · have e : loopsOf 0 (bodyOf Try.f19) = [lcode Try.f19 0] := by kernel_rfl
    rw [e]
    intro p hp
    simp only [List.mem_cons, List.not_mem_nil, or_false] at hp
    subst hp
    exact lsAdd_hit lp19
  · intro hl x1 h1 x3 h3 _ x6 h6
    subst h1
    refine ⟨h6, hl, rfl, ?_, fun h => ?_⟩
    · unfold namedS; rw [← h3]
    · unfold namedS; rw [← h3, h]
theorem b19_ok (args : List V) (k : V → Prop) (h : b19 args k) : ∃ r, CallP Try.prog 19 args r ∧ k r := by
  unfold b19 at h
  split at h
  · exact ⟨_, c19 _, h⟩
  · exact h.elim
theorem lp26 : LsOk Try.prog 23 1000 [0, 3] [] ent26 (lcode Try.f26 0).2 := by
  intro vs ks K h
  unfold ent26 at h
  split at h
  · rename_i s i
    obtain ⟨rfl, hK, hK2⟩ := h
    refine loop_rule (hints := noHint) (prs := prsOf []) (Ls := noLs) (Sp := sp26) spNil_ok ends26_0 (γ := Int) (fun i => [.str s, .int .i64 i]) (fun _ => []) (fun i => s.length - i.toNat)
      (fun i => 0 ≤ i ∧ i ≤ s.length ∧ s.all namB = (s.drop i.toNat).all namB) K (noLoop_ok (by kernel_rfl)) ?_ 0 ⟨by omega, by omega, rfl⟩
    rintro i ⟨h0, h1, h2⟩
    refine (nl26_0 s i _ _ _).mpr ?_
    intro hl x1 hx1 x hx; subst hx1; subst hx
    refine ⟨fun h3 => ?_, fun h3 => ?_⟩
    · simp only [decide_eq_true_eq] at h3
      have hi : i.toNat < s.length := by omega
      have e1 : (i + 1).toNat = i.toNat + 1 := by omega
      rw [dropc hi, List.all_cons] at h2
      have hnb : namB s[i.toNat] = if decide ((s[i.toNat].toNat : Int) ≥ 32) then decide ((s[i.toNat].toNat : Int) ≤ 126) else false := rfl
      refine ⟨h0, h3, fun x6 h6 x8 h8 => ⟨fun h9 => hK2 ?_, fun h9 => ⟨h0, h3, fun x12 h12 x14 h14 => ⟨fun h15 => hK2 ?_, fun h15 z hz => ?_⟩⟩⟩⟩
      · rw [getS hi] at h6
        rw [h6] at h8
        rw [h8] at h9
        simp only [decide_eq_true_eq] at h9
        have : ¬ ((s[i.toNat].toNat : Int) ≥ 32) := by omega
        rw [h2, hnb]
        simp only [this, decide_false, Bool.false_eq_true, if_false, Bool.false_and]
      · rw [getS hi] at h12
        rw [h12] at h14
        rw [h14] at h15
        simp only [decide_eq_true_eq] at h15
        have : ¬ ((s[i.toNat].toNat : Int) ≤ 126) := by omega
        rw [h2, hnb]
        simp only [this, decide_false]
        split <;> rfl
      · have hz' : z = i + 1 := by rw [hz, IntKind.wrap_i64]; omega
        subst hz'
        rw [getS hi] at h6 h12
        rw [h6] at h8; rw [h12] at h14
        rw [h8] at h9; rw [h14] at h15
        simp only [decide_eq_false_iff_not] at h9 h15
        have g1 : ((s[i.toNat].toNat : Int) ≥ 32) := by omega
        have g2 : ((s[i.toNat].toNat : Int) ≤ 126) := by omega
        have hn : namB s[i.toNat] = true := by rw [hnb]; simp only [g1, g2, decide_true, if_true]
        refine ⟨i + 1, rfl, rfl, ?_, by omega, by omega, ?_⟩
        · show s.length - (i + 1).toNat < s.length - i.toNat
          omega
        · rw [h2, hn, e1, Bool.true_and]
    · simp only [decide_eq_false_iff_not] at h3
      have e : s.drop i.toNat = [] := List.drop_eq_nil_of_le (by omega)
      rw [e] at h2
      exact hK h2
  · exact h.elim
theorem c26 (s : List UInt8) : CallP Try.prog 26 [.str s] (.bool (namedS s)) := by
  refine call_loops (Sp := sp26) spNil_ok Try.func26 Try.ntmps26 (by kernel_rfl) (loopsOf_ok ?_) ((n26 s _).mpr ?_)
  · have e : loopsOf 0 (bodyOf Try.f26) = [lcode Try.f26 0] := by kernel_rfl
    rw [e]
    intro p hp
    simp only [List.mem_cons, List.not_mem_nil, or_false] at hp
    subst hp
    exact lsAdd_hit lp26
  · refine ⟨rfl, fun h hl x1 h1 x3 h3 => ?_, fun h => ?_⟩
    · subst h1
      unfold namedS; rw [← h3, h]
      cases x3 <;> rfl
    · unfold namedS; rw [h]; split <;> rfl
theorem b26_ok (args : List V) (k : V → Prop) (h : b26 args k) : ∃ r, CallP Try.prog 26 args r ∧ k r := by
  unfold b26 at h
  split at h
  · exact ⟨_, c26 _, h⟩
  · exact h.elim
theorem sp28_29_ok : SpOk Try.prog sp28_29 := spAdd_ok b29_ok spNil_ok
theorem lp28_29 : LsOk Try.prog 19 1000 [0, 1, 7, 8] [] ent28_29 (lcode Try.f28 0).2 := by
  intro vs ks K h
  unfold ent28_29 at h
  split at h
  · rename_i ls s n i
    obtain ⟨rfl, hl, rfl, hc, hK, hK2⟩ := h
    refine loop_rule (hints := noHint) (prs := prsOf []) (Ls := noLs) sp28_29_ok ends28_29 (γ := Int) (fun i => [.list false ls, .fn 29 [.dptr (.str s)], .int .i64 ls.length, .int .i64 i]) (fun _ => []) (fun i => ls.length - i.toNat)
      (fun i => 0 ≤ i ∧ i ≤ ls.length ∧ idxI s ls 0 = idxI s (ls.drop i.toNat) i) K (noLoop_ok (by kernel_rfl)) ?_ 0 ⟨by omega, by omega, rfl⟩
    rintro i ⟨h0, h1, h2⟩
    refine (nl28_29 s ls _ i _ _ _).mpr ?_
    intro x hx; subst hx
    refine ⟨fun h3 => ?_, fun h3 => ?_⟩
    · simp only [decide_eq_true_eq] at h3
      have hi : i.toNat < ls.length := by omega
      have e1 : (i + 1).toNat = i.toNat + 1 := by omega
      obtain ⟨n, d, g1, g2, _⟩ := hc.at h0 h3
      have hg := getVn hi
      rw [show ((i.toNat : Nat) : Int) = i by omega] at hg
      rw [hg] at g2
      rw [dropc hi] at h2
      simp only [idxI, g2] at h2
      refine ⟨h0, h3, n, d, g1, fun h4 => ?_, fun h4 z hz => ?_⟩
      · rw [h4] at h2
        simp only [if_true] at h2
        rw [← h2]
        exact hK2 (by omega)
      · rw [h4] at h2
        simp only [Bool.false_eq_true, if_false] at h2
        have hz' : z = i + 1 := by rw [hz, IntKind.wrap_i64]; omega
        subst hz'
        refine ⟨i + 1, rfl, rfl, ?_, by omega, by omega, ?_⟩
        · show ls.length - (i + 1).toNat < ls.length - i.toNat
          omega
        · rw [h2, e1]
    · simp only [decide_eq_false_iff_not] at h3
      have e : ls.drop i.toNat = [] := List.drop_eq_nil_of_le (by omega)
      rw [e] at h2
      exact hK h2
  · exact h.elim
theorem c28_29 (s : List UInt8) (ls : List V) (hc : CLs ls) : CallP Try.prog 28 [.list false ls, .fn 29 [.dptr (.str s)]] (.int .i64 (idxI s ls 0)) := by
  refine call_loops sp28_29_ok Try.func28 Try.ntmps28 (by kernel_rfl) (loopsOf_ok ?_) ((n28_29 s ls _).mpr ?_)
  · have e : loopsOf 0 (bodyOf Try.f28) = [lcode Try.f28 0] := by kernel_rfl
    rw [e]
    intro p hp
    simp only [List.mem_cons, List.not_mem_nil, or_false] at hp
    subst hp
    exact lsAdd_hit lp28_29
  · exact fun hl x1 h1 => ⟨h1, hl, rfl, hc, fun h => by rw [h], fun _ => rfl⟩
theorem sp28_31_ok : SpOk Try.prog sp28_31 := spAdd_ok b31_ok spNil_ok
theorem lp28_31 : LsOk Try.prog 19 1000 [0, 1, 7, 8] [] ent28_31 (lcode Try.f28 0).2 := by
  intro vs ks K h
  unfold ent28_31 at h
  split at h
  · rename_i ls s n i
    obtain ⟨rfl, hl, rfl, hc, hK, hK2⟩ := h
    refine loop_rule (hints := noHint) (prs := prsOf []) (Ls := noLs) sp28_31_ok ends28_31 (γ := Int) (fun i => [.list false ls, .fn 31 [.dptr (.str s)], .int .i64 ls.length, .int .i64 i]) (fun _ => []) (fun i => ls.length - i.toNat)
      (fun i => 0 ≤ i ∧ i ≤ ls.length ∧ idxI s ls 0 = idxI s (ls.drop i.toNat) i) K (noLoop_ok (by kernel_rfl)) ?_ 0 ⟨by omega, by omega, rfl⟩
    rintro i ⟨h0, h1, h2⟩
    refine (nl28_31 s ls _ i _ _ _).mpr ?_
    intro x hx; subst hx
    refine ⟨fun h3 => ?_, fun h3 => ?_⟩
    · simp only [decide_eq_true_eq] at h3
      have hi : i.toNat < ls.length := by omega
      have e1 : (i + 1).toNat = i.toNat + 1 := by omega
      obtain ⟨n, d, g1, g2, _⟩ := hc.at h0 h3
      have hg := getVn hi
      rw [show ((i.toNat : Nat) : Int) = i by omega] at hg
      rw [hg] at g2
      rw [dropc hi] at h2
      simp only [idxI, g2] at h2
      refine ⟨h0, h3, n, d, g1, fun h4 => ?_, fun h4 z hz => ?_⟩
      · rw [h4] at h2
        simp only [if_true] at h2
        rw [← h2]
        exact hK2 (by omega)
      · rw [h4] at h2
        simp only [Bool.false_eq_true, if_false] at h2
        have hz' : z = i + 1 := by rw [hz, IntKind.wrap_i64]; omega
        subst hz'
        refine ⟨i + 1, rfl, rfl, ?_, by omega, by omega, ?_⟩
        · show ls.length - (i + 1).toNat < ls.length - i.toNat
          omega
        · rw [h2, e1]
    · simp only [decide_eq_false_iff_not] at h3
      have e : ls.drop i.toNat = [] := List.drop_eq_nil_of_le (by omega)
      rw [e] at h2
      exact hK h2
  · exact h.elim
theorem c28_31 (s : List UInt8) (ls : List V) (hc : CLs ls) : CallP Try.prog 28 [.list false ls, .fn 31 [.dptr (.str s)]] (.int .i64 (idxI s ls 0)) := by
  refine call_loops sp28_31_ok Try.func28 Try.ntmps28 (by kernel_rfl) (loopsOf_ok ?_) ((n28_31 s ls _).mpr ?_)
  · have e : loopsOf 0 (bodyOf Try.f28) = [lcode Try.f28 0] := by kernel_rfl
    rw [e]
    intro p hp
    simp only [List.mem_cons, List.not_mem_nil, or_false] at hp
    subst hp
    exact lsAdd_hit lp28_31
  · exact fun hl x1 h1 => ⟨h1, hl, rfl, hc, fun h => by rw [h], fun _ => rfl⟩
theorem b28_ok (args : List V) (k : V → Prop) (h : b28 args k) : ∃ r, CallP Try.prog 28 args r ∧ k r := by
  unfold b28 at h
  split at h
  · exact ⟨_, c28_29 _ _ h.1, h.2⟩
  · exact ⟨_, c28_31 _ _ h.1, h.2⟩
  · exact h.elim
theorem idx_has (s : List UInt8) (ls : List V) : decide (idxI s ls 0 ≥ 0) = hasS ls s := by
  rcases idx_spec s ls 0 (by omega) with ⟨a, b, c⟩ | ⟨k, h, a, b, c⟩
  · rw [a, c]; decide
  · rw [a, c, decide_eq_true_eq]; omega
theorem sp30_ok : SpOk Try.prog sp30 := spAdd_ok b28_ok spNil_ok
theorem c30 (s : List UInt8) (ls : List V) (hc : CLs ls) : CallP Try.prog 30 [.list false ls, .fn 31 [.dptr (.str s)]] (.bool (hasS ls s)) :=
  call_plain sp30_ok Try.func30 Try.ntmps30 (by kernel_rfl) ((n30 s ls _).mpr ⟨hc, fun x hx => by rw [hx, idx_has]⟩)
theorem b30_ok (args : List V) (k : V → Prop) (h : b30 args k) : ∃ r, CallP Try.prog 30 args r ∧ k r := by
  unfold b30 at h
  split at h
  · exact ⟨_, c30 _ _ h.1, h.2⟩
  · exact h.elim
theorem sp20_ok : SpOk Try.prog sp20 := spAdd_ok b30_ok spNil_ok
theorem c20 (s : List UInt8) (ls : List V) (hc : CLs ls) : CallP Try.prog 20 [.list false ls, .str s] (.bool (hasS ls s)) :=
  call_plain sp20_ok Try.func20 Try.ntmps20 (by kernel_rfl) ((n20 s ls _).mpr ⟨⟨rfl, fun v hv => by rcases List.mem_cons.1 hv with rfl | hv <;> first | exact ⟨rfl, rfl⟩ | cases hv⟩, fun _ => ⟨hc, rfl⟩⟩)
theorem b20_ok (args : List V) (k : V → Prop) (h : b20 args k) : ∃ r, CallP Try.prog 20 args r ∧ k r := by
  unfold b20 at h
  split at h
  · exact ⟨_, c20 _ _ h.1, h.2⟩
  · exact h.elim
theorem sp17_ok : SpOk Try.prog sp17 := spAdd_ok b28_ok spNil_ok
theorem c17 (s : List UInt8) (ls : List V) (hc : CLs ls) : CallP Try.prog 17 [.list false ls, .str s] (.tup [.str (findS s ls).1, .bool (findS s ls).2]) := by
  refine call_plain sp17_ok Try.func17 Try.ntmps17 (by kernel_rfl) ((n17 s ls _).mpr ⟨⟨rfl, fun v hv => by rcases List.mem_cons.1 hv with rfl | hv <;> first | exact ⟨rfl, rfl⟩ | cases hv⟩, fun _ => ⟨hc, fun x hx => ?_⟩⟩)
  rcases idx_spec s ls 0 (by omega) with ⟨a, b, c⟩ | ⟨k, h, a, b, c⟩
  · rw [a] at hx
    rw [b]
    refine ⟨fun h => ?_, fun _ => rfl⟩
    rw [h] at hx
    exact absurd hx (by decide)
  · rw [b]
    refine ⟨fun _ => ?_, fun h => ?_⟩
    · have e : idxI s ls 0 = (k : Int) := by omega
      obtain ⟨n, d, g1, g2, g3⟩ := hc.at (i := (k : Int)) (by omega) (by omega)
      rw [e]
      rw [getVn h] at g1 g3
      rw [g3]
      exact ⟨by omega, by omega, n, d, by rw [getVn h]; exact g1, rfl⟩
    · rw [h, a] at hx
      have := of_decide_eq_false hx.symm
      omega
theorem b17_ok (args : List V) (k : V → Prop) (h : b17 args k) : ∃ r, CallP Try.prog 17 args r ∧ k r := by
  unfold b17 at h
  split at h
  · exact ⟨_, c17 _ _ h.1, h.2⟩
  · exact h.elim
theorem lp18 : LsOk Try.prog 25 1000 [0, 1, 6] [] ent18 (lcode Try.f18 0).2 := by
  intro vs ks K h
  unfold ent18 at h
  split at h
  · rename_i ls s i
    obtain ⟨rfl, hc, hK, hK2⟩ := h
    refine loop_rule (hints := noHint) (prs := prsOf []) (Ls := noLs) (Sp := sp18) spNil_ok ends18_0 (γ := Int) (fun i => [.list false ls, .str s, .int .i64 i]) (fun _ => []) (fun i => ls.length - i.toNat)
      (fun i => 0 ≤ i ∧ i ≤ ls.length ∧ findS s ls = findS s (ls.drop i.toNat)) K (noLoop_ok (by kernel_rfl)) ?_ 0 ⟨by omega, by omega, rfl⟩
    rintro i ⟨h0, h1, h2⟩
    refine (nl18_0 s ls i _ _ _).mpr ?_
    intro hl x1 hx1 x hx; subst hx1; subst hx
    refine ⟨fun h3 => ?_, fun h3 => ?_⟩
    · simp only [decide_eq_true_eq] at h3
      have hi : i.toNat < ls.length := by omega
      have e1 : (i + 1).toNat = i.toNat + 1 := by omega
      obtain ⟨n, d, g1, g2, g3⟩ := hc.at h0 h3
      have hg := getVn hi
      rw [show ((i.toNat : Nat) : Int) = i by omega] at hg
      rw [hg] at g2 g3
      rw [dropc hi] at h2
      simp only [findS, g2, g3] at h2
      refine ⟨h0, h3, n, d, g1, fun x8 h8 => ⟨fun h4 => ⟨h0, h3, n, d, g1, ?_⟩, fun h4 z hz => ?_⟩⟩
      · rw [← h8, h4] at h2
        simp only [if_true] at h2
        have := hK2 (by rw [h2])
        rw [h2] at this
        exact this
      · rw [← h8, h4] at h2
        simp only [Bool.false_eq_true, if_false] at h2
        have hz' : z = i + 1 := by rw [hz, IntKind.wrap_i64]; omega
        subst hz'
        refine ⟨i + 1, rfl, rfl, ?_, by omega, by omega, ?_⟩
        · show ls.length - (i + 1).toNat < ls.length - i.toNat
          omega
        · rw [h2, e1]
    · simp only [decide_eq_false_iff_not] at h3
      have e : ls.drop i.toNat = [] := List.drop_eq_nil_of_le (by omega)
      rw [e] at h2
      exact hK (by rw [h2]; rfl)
  · exact h.elim
theorem c18 (s : List UInt8) (ls : List V) (hc : CLs ls) : CallP Try.prog 18 [.list false ls, .str s] (.tup [.str (findS s ls).1, .bool (findS s ls).2]) := by
  refine call_loops (Sp := sp18) spNil_ok Try.func18 Try.ntmps18 (by kernel_rfl) (loopsOf_ok ?_) ((n18 s ls _).mpr ?_)
  · have e : loopsOf 0 (bodyOf Try.f18) = [lcode Try.f18 0] := by kernel_rfl
    rw [e]
    intro p hp
    simp only [List.mem_cons, List.not_mem_nil, or_false] at hp
    subst hp
    exact lsAdd_hit lp18
  · refine ⟨rfl, hc, fun h => ?_, fun h => by rw [h]⟩
    rcases idx_spec s ls 0 (by omega) with ⟨a, b, c⟩ | ⟨k, hk, a, b, c⟩
    · rw [b]
    · rw [b] at h; cases h
theorem b18_ok (args : List V) (k : V → Prop) (h : b18 args k) : ∃ r, CallP Try.prog 18 args r ∧ k r := by
  unfold b18 at h
  split at h
  · exact ⟨_, c18 _ _ h.1, h.2⟩
  · exact h.elim
end GoL
