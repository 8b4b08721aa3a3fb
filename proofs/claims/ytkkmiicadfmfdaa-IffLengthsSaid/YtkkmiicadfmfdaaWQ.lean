/- A part of the proof: a logic for programs of this kind, proved sound over the model; contracts of functions; plain laws. -/
import Derived.Test.YtkkmiicadfmfdaaWP
set_option linter.all false
open Go Go.Proofs
namespace GoL
set_option linter.unusedVariables false
set_option linter.unusedSimpArgs false
set_option maxRecDepth 8000
theorem nm_of {i : Int} (h0 : 0 ≤ i) {x17 : Int} (h17 : x17 = i + 1) {x19 x21 x23 : List UInt8} (h19 : x19 = List.take (Int.toNat (x17 - i)) (List.drop (Int.toNat i) [48, 49, 50, 51, 52, 53, 54, 55, 56, 57])) (h21 : x21 = 67 :: 104 :: x19) (h23 : x23 = x21 ++ [120]) : x23 = nmD (i.toNat : Nat) ∧ x19.length ≤ 10 := by
  have e1 : (x17 - i).toNat = 1 := by omega
  rw [e1] at h19
  refine ⟨?_, ?_⟩
  · rw [h23, h21, h19]
    unfold nmD
    rw [Int.toNat_natCast]
    rfl
  · rw [h19, List.length_take]
    omega
theorem noids_cls {c : List V} (h : CLs c) : NoIds c := fun v hv => by obtain ⟨a, b, rfl⟩ := h v hv; rfl
theorem lp5 : LsOk Try.prog 116 1003 [0, 1, 5, 6] [] ent5 (lcode Try.f5 0).2 := by
  intro vs ks K h
  unfold ent5 at h
  split at h
  · rename_i xs v i
    obtain ⟨hx, hle, rfl, hK, hK2⟩ := h
    refine TL_own (t := 5) (E := 36) rfl ?_
    have hc : cutK 1004 [0, 1, 5, 6] [1003] (fun vs ks => vs = [.list false xs, .int .u32 v, .sl 1003 0, .int .i64 0] ∧ ks = [⟨some 36, false, .agg []⟩]) 1004 ((5, .sl 1003 0) :: List.zip [0, 1, 5, 6] [.list false xs, .int .u32 v, .nils, .int .i64 0]) ((1003, ⟨some 36, false, .agg []⟩) :: List.zip [] []) := ⟨fun v hv => (by cases hv), rfl, rfl⟩
    obtain ⟨vs, ks, ⟨rfl, rfl⟩, hw⟩ := cutK_go hc
    have hL := loop_rule (N := 116) (c := (lcode Try.f5 0).2) (hints := noHint) (prs := (prsOf [(7, [[], [], [], [2], [1, 3, 2], [4, 1, 3, 2], [5, 4, 1, 3, 2], [], [], [7, 8], [9, 7, 8], [6, 5, 4, 1, 3, 2, 10, 9, 7, 8], [11, 6, 5, 4, 1, 3, 2, 10, 9, 7, 8], [0, 12, 11, 6, 5, 4, 1, 3, 2, 10, 9, 7, 8], [13, 0, 12, 11, 6, 5, 4, 1, 3, 2, 10, 9, 7, 8]])])) (Ls := noLs) sp5_ok ends5_0 (γ := Int) (fun i => [.list false xs, .int .u32 v, .sl 1003 (cS xs i.toNat).length, .int .i64 i]) (fun i => [⟨some 36, false, .agg (cS xs i.toNat)⟩]) (fun i => 5 - i.toNat)
      (fun i => 0 ≤ i ∧ i ≤ 5 ∧ i ≤ xs.length ∧ ∀ j : Int, 0 ≤ j → j < i → ((strV (getV xs j)).length : Int) ≤ 500) K (noLoop_ok (by kernel_rfl)) (fun i hi => by
        obtain ⟨h0, h5, h1, h2⟩ := hi
        refine (nl5_0 xs (cS xs i.toNat) v i _ _ _).mpr ?_
        intro _ x1 hx1 x3 hx3; subst hx1; subst hx3
        have hcl := cS_len xs i.toNat
        have stop : ¬ (i < (xs.length : Int) ∧ i < 5) → NoIds (cS xs i.toNat) ∧ K (.exit 0) 1004 [(1, .int .u32 v), (5, .sl 1003 (cS xs i.toNat).length)] [(1003, ⟨some 36, false, .agg (cS xs i.toNat)⟩)] := fun hn => by
          have e : i.toNat = min 5 xs.length := by omega
          rw [e]
          exact ⟨noids_cls (cS_cls _ _), hK fun j j0 j1 j2 => h2 j j0 (by omega)⟩
        refine ⟨fun h3 x6 hx6 => ?_, fun h3 => stop fun h => by simp [h.1] at h3⟩
        simp only [decide_eq_true_eq] at h3
        subst hx6
        refine ⟨fun h6 => ?_, fun h6 => stop fun h => by simp [h.2] at h6⟩
        simp only [decide_eq_true_eq] at h6
        obtain ⟨s, g1, g2⟩ := hx.at h0 h3
        refine ⟨h0, h3, s, g1, fun _ x11 h11 x13 h13 => ⟨fun h14 => hK2 fun hA => ?_, fun h14 x17 h17 => ?_⟩⟩
        · have := hA i h0 h3 h6
          rw [g2] at this
          rw [h13, h11] at h14
          have := of_decide_eq_true h14
          omega
        have e17 : x17 = i + 1 := by rw [h17, IntKind.wrap_i64]; omega
        refine ⟨⟨rfl, rfl, trivial, trivial, h0, by omega, by show x17 ≤ 10; omega⟩, fun x19 h19 => ?_⟩
        have hl19 := (nm_of h0 e17 h19 rfl rfl).2
        refine ⟨by omega, fun x21 h21 => ⟨by rw [h21]; simp only [List.length_cons]; omega, fun x23 h23 => ?_⟩⟩
        obtain ⟨e23, _⟩ := nm_of h0 e17 h19 h21 h23
        refine ⟨h0, h3, s, g1, ⟨rfl, rfl, ⟨rfl, trivial⟩, fun v hv => ?_, rfl, rfl, 32, rfl, ?_, ?_⟩, fun x29 h29 => ?_⟩
        · rcases List.mem_cons.1 hv with rfl | hv
          · rfl
          · cases hv
        · show ((cS xs i.toNat).length + 1) * 32 ≤ _; omega
        · show (cS xs i.toNat).length + 1 ≤ _; omega
        have e29 : x29 = i + 1 := by rw [h29, IntKind.wrap_i64]; omega
        subst e29
        have ei : ((i.toNat : Nat) : Int) = i := by omega
        have key : cS xs i.toNat ++ [.agg [.str x23, .str s]] = cS xs (i + 1).toNat := by
          rw [show (i + 1).toNat = i.toNat + 1 by omega]
          simp only [cS]
          rw [e23, ei, g2]
          rfl
        have kl : (cS xs i.toNat).length + List.length [V.agg [.str x23, .str s]] = (cS xs (i + 1).toNat).length := by rw [← key, List.length_append]
        rw [key, kl]
        refine ⟨noids_cls (cS_cls _ _), i + 1, rfl, rfl, ?_, by omega, by omega, by omega, fun j j0 j1 => ?_⟩
        · show 5 - (i + 1).toNat < 5 - i.toNat
          omega
        · by_cases e : j = i
          · subst e
            rw [g2]
            rw [h13, h11] at h14
            have := of_decide_eq_false h14
            omega
          · exact h2 j j0 (by omega)) 0 ⟨by omega, by omega, by omega, fun j j0 j1 => by omega⟩
    exact hL.weak hw
  · exact h.elim
theorem lp7 : LsOk Try.prog 109 1004 [0, 1, 5, 6, 7] [] ent7 (lcode Try.f7 0).2 := by
  intro vs ks K h
  unfold ent7 at h
  split at h
  · rename_i xs at0 n i
    obtain ⟨hx, hle, rfl, rfl, hK, hK2⟩ := h
    refine TL_own (t := 5) (E := 36) rfl ?_
    have hc : cutK 1005 [0, 1, 5, 6, 7] [1004] (fun vs ks => vs = [.list false xs, .int .i64 at0, .sl 1004 0, .int .i64 12, .int .i64 0] ∧ ks = [⟨some 36, false, .agg []⟩]) 1005 ((5, .sl 1004 0) :: List.zip [0, 1, 5, 6, 7] [.list false xs, .int .i64 at0, .nils, .int .i64 12, .int .i64 0]) ((1004, ⟨some 36, false, .agg []⟩) :: List.zip [] []) := ⟨fun v hv => (by cases hv), rfl, rfl⟩
    obtain ⟨vs, ks, ⟨rfl, rfl⟩, hw⟩ := cutK_go hc
    have hL := loop_rule (N := 109) (c := (lcode Try.f7 0).2) (hints := noHint) (prs := (prsOf [(8, [[], [], [], [2], [1, 3, 2], [4, 1, 3, 2], [5, 4, 1, 3, 2], [], [], [7, 8], [9, 7, 8], [6, 5, 4, 1, 3, 2, 10, 9, 7, 8], [11, 6, 5, 4, 1, 3, 2, 10, 9, 7, 8], [0, 12, 11, 6, 5, 4, 1, 3, 2, 10, 9, 7, 8], [13, 0, 12, 11, 6, 5, 4, 1, 3, 2, 10, 9, 7, 8]])])) (Ls := noLs) sp7_ok ends7_0 (γ := Int) (fun i => [.list false xs, .int .i64 at0, .sl 1004 (cS xs i.toNat).length, .int .i64 (12 + sumC (cS xs i.toNat)), .int .i64 i]) (fun i => [⟨some 36, false, .agg (cS xs i.toNat)⟩]) (fun i => 10 - i.toNat)
      (fun i => 0 ≤ i ∧ i ≤ 10 ∧ i ≤ xs.length ∧ ∀ j : Int, 0 ≤ j → j < i → ((strV (getV xs j)).length : Int) ≤ 2000) K (noLoop_ok (by kernel_rfl)) (fun i hi => by
        obtain ⟨h0, h5, h1, h2⟩ := hi
        refine (nl7_0 xs (cS xs i.toNat) at0 _ i _ _ _).mpr ?_
        intro _ x1 hx1 x3 hx3; subst hx1; subst hx3
        have hcl := cS_len xs i.toNat
        have stop : ¬ (i < (xs.length : Int) ∧ i < 10) → NoIds (cS xs i.toNat) ∧ K (.exit 0) 1005 [(0, .list false xs), (1, .int .i64 at0), (5, .sl 1004 (cS xs i.toNat).length), (6, .int .i64 (12 + sumC (cS xs i.toNat)))] [(1004, ⟨some 36, false, .agg (cS xs i.toNat)⟩)] := fun hn => by
          have e : i.toNat = min 10 xs.length := by omega
          rw [e]
          exact ⟨noids_cls (cS_cls _ _), hK fun j j0 j1 j2 => h2 j j0 (by omega)⟩
        refine ⟨fun h3 x6 hx6 => ?_, fun h3 => stop fun h => by simp [h.1] at h3⟩
        simp only [decide_eq_true_eq] at h3
        subst hx6
        refine ⟨fun h6 => ?_, fun h6 => stop fun h => by simp [h.2] at h6⟩
        simp only [decide_eq_true_eq] at h6
        obtain ⟨s, g1, g2⟩ := hx.at h0 h3
        refine ⟨h0, h3, s, g1, fun _ x11 h11 x13 h13 => ⟨fun h14 => hK2 fun hA => ?_, fun h14 x17 h17 => ?_⟩⟩
        · have := hA i h0 h3 h6
          rw [g2] at this
          rw [h13, h11] at h14
          have := of_decide_eq_true h14
          omega
        have hs2 : (s.length : Int) ≤ 2000 := by
          rw [h13, h11] at h14
          have := of_decide_eq_false h14
          omega
        have e17 : x17 = i + 1 := by rw [h17, IntKind.wrap_i64]; omega
        refine ⟨⟨rfl, rfl, trivial, trivial, h0, by omega, by show x17 ≤ 10; omega⟩, fun x19 h19 => ?_⟩
        have hl19 := (nm_of h0 e17 h19 rfl rfl).2
        refine ⟨by omega, fun x21 h21 => ⟨by rw [h21]; simp only [List.length_cons]; omega, fun x23 h23 => ?_⟩⟩
        obtain ⟨e23, _⟩ := nm_of h0 e17 h19 h21 h23
        refine ⟨h0, h3, s, g1, ⟨rfl, rfl, ⟨rfl, trivial⟩, fun v hv => ?_, rfl, rfl, 32, rfl, ?_, ?_⟩, fun x29 h29 => ⟨h0, h3, s, g1, fun _ x33 h33 x35 h35 => ⟨⟨rfl, fun h => by cases h⟩, fun _ x39 h39 x41 h41 x43 h43 x45 h45 => ?_⟩⟩⟩
        · rcases List.mem_cons.1 hv with rfl | hv
          · rfl
          · cases hv
        · show ((cS xs i.toNat).length + 1) * 32 ≤ _; omega
        · show (cS xs i.toNat).length + 1 ≤ _; omega
        have e45 : x45 = i + 1 := by rw [h45, IntKind.wrap_i64]; omega
        subst e45
        have ei : ((i.toNat : Nat) : Int) = i := by omega
        have key : cS xs i.toNat ++ [.agg [.str x23, .str s]] = cS xs (i + 1).toNat := by
          rw [show (i + 1).toNat = i.toNat + 1 by omega]
          simp only [cS]
          rw [e23, ei, g2]
          rfl
        have kl : (cS xs i.toNat).length + List.length [V.agg [.str x23, .str s]] = (cS xs (i + 1).toNat).length := by rw [← key, List.length_append]
        have hsm := cS_sum (xs := xs) (m := 2000) i.toNat (fun j hj => by
          have := h2 (j : Int) (by omega) (by omega)
          omega)
        have hst : sumC (cS xs (i + 1).toNat) = sumC (cS xs i.toNat) + (8 + (s.length : Int) + fillI (s.length : Int)) := by
          rw [← key, sumC_app]
          simp only [sumC, szC, dtV]
          omega
        have e43 : x43 = 12 + sumC (cS xs (i + 1).toNat) := by
          rw [hst]
          rw [IntKind.wrap_i64] at h29 h35 h39 h41 h43
          have e35 : x35 = (s.length : Int) + 3 := by omega
          rw [e35, Int.tdiv_eq_ediv_of_nonneg (by omega)] at h39
          unfold fillI
          omega
        rw [key, kl, e43]
        refine ⟨noids_cls (cS_cls _ _), i + 1, rfl, rfl, ?_, by omega, by omega, by omega, fun j j0 j1 => ?_⟩
        · show 10 - (i + 1).toNat < 10 - i.toNat
          omega
        · by_cases e : j = i
          · subst e
            rw [g2]
            exact hs2
          · exact h2 j j0 (by omega)) 0 ⟨by omega, by omega, by omega, fun j j0 j1 => by omega⟩
    exact hL.weak hw
  · exact h.elim
theorem c7 (xs : List V) (at0 : Int) (hx : StL xs) (hle : xs.length ≤ 9223372036854775807) : CallP Try.prog 7 [.list false xs, .int .i64 at0] (.bool true) := by
  refine call_loops sp7_ok Try.func7 Try.ntmps7 (by kernel_rfl) (loopsOf_ok ?_) ((n7 xs at0 _).mpr ?_)
  · have e : loopsOf 0 (bodyOf Try.f7) = [lcode Try.f7 0] := by kernel_rfl
    rw [e]
    intro p hp
    simp only [List.mem_cons, List.not_mem_nil, or_false] at hp
    subst hp
    exact lsAdd_hit lp7
  · refine ⟨hx, hle, rfl, rfl, fun hA => ?_, fun _ => rfl⟩
    have hk10 : min 10 xs.length ≤ 10 := by omega
    have hkx : min 10 xs.length ≤ xs.length := by omega
    generalize min 10 xs.length = k at hk10 hkx
    obtain ⟨hf, hE⟩ := cS_fit (xs := xs) (k := k) (m := 2000) hk10 (by omega) (fun j hj => by
      have := hA (j : Int) (by omega) (by omega) (by omega)
      omega)
    have hcl := cS_len xs k
    have hcc := cS_cls xs k
    refine ⟨rfl, hf, fun _ rows hr x8 h8 => ?_, fun e he hne => absurd (he.trans hE) hne⟩
    have hr : rows = mkS (cS xs k) := hr
    have hlen := mkS_len (mkE_zero hE).1
    rw [← hr] at hlen
    subst h8
    refine ⟨fun h => (by cases h), fun _ => ⟨rfl, fun _ x13 h13 x15 h15 => ?_⟩⟩
    subst h13
    have h15' : x15 = false := by rw [h15, hlen]; simp
    subst h15'
    refine ⟨fun h => (by cases h), fun _ => ⟨rfl, fun _ x20 h20 x22 h22 => ⟨fun _ => rfl, fun h23 => ⟨rfl, fun _ x27 h27 => ?_⟩⟩⟩⟩
    subst h20; subst h27
    have hk0 : k ≠ 0 := by
      intro h0
      rw [h22, hcl, h0] at h23
      simp at h23
    rw [hcl]
    obtain ⟨p0, p1⟩ := place_in (y := at0) (n := (k : Int)) (by omega) (by omega)
    generalize place at0 (k : Int) = p at p0 p1
    have ep : ((p.toNat : Nat) : Int) = p := by omega
    have hget := cS_get xs k p.toNat (by omega)
    rw [ep] at hget
    obtain ⟨s, g1, g2⟩ := hx.at (i := p) p0 (by omega)
    have hfind := cS_find xs k p.toNat (by omega) hk10
    rw [ep, g2] at hfind
    have hnone : (findS [110, 111, 110, 101] (cS xs k)).2 = false := by rw [find_snd]; exact cS_none xs hk10
    have hoff : V.szs ((cS xs k).take p.toNat) = p.toNat * 2 := by
      have h5 : V.szs ((cS xs k).take p.toNat) = ((cS xs k).take p.toNat).length * 2 := szs_const fun v hv => by obtain ⟨a, b, rfl⟩ := hcc v (List.mem_of_mem_take hv); rfl
      rw [h5, List.length_take]; omega
    refine ⟨by omega, rfl, p0, p1, rfl, rfl, nmD p, ?_, rfl, ?_, rfl, hcc, rfl, hcc, fun _ => ⟨p0, by omega, s, g1, fun x32 h32 => ?_⟩, fun h => ?_⟩
    · show V.sub (.agg (cS xs k)) [p.toNat, 0] = _
      simp only [V.sub, hget]
      rfl
    · show V.off (.agg (cS xs k)) [p.toNat, 0] = _
      simp only [V.off, hget, hoff]
      rfl
    · rw [hfind] at h32
      have h32 : x32 = true := by rw [h32]; simp
      subst h32
      refine ⟨fun _ x35 h35 => ?_, fun h => by cases h⟩
      have h35 : x35 = true := by
        rw [h35]
        have : (findS [110, 111, 110, 101] (cS xs k)).2 = false := hnone
        show (!(findS [110, 111, 110, 101] (cS xs k)).2) = true
        rw [this]; rfl
      subst h35
      exact ⟨fun _ => rfl, fun h => by cases h⟩
    · rw [hfind] at h
      cases h
end GoL
