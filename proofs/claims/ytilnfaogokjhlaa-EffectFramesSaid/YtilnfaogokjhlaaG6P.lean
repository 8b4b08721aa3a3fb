/- A part of the proof: a logic for programs of this kind, proved sound over the model; contracts of functions; plain laws. -/
import Derived.Test.YtilnfaogokjhlaaG6N
import Derived.Test.YtilnfaogokjhlaaG5P
set_option linter.all false
open Go Go.Proofs
namespace GoL
set_option linter.unusedVariables false
set_option linter.unusedSimpArgs false
set_option maxRecDepth 8000
attribute [local irreducible] wC
theorem throws_nil {l : LK} (h : l.s.ts = []) : throwsG l = l := by
  unfold throwsG
  rw [h]
  cases l.rt
  · rfl
  · cases thr (fitsG l.op l.ag) l.op l.ag <;> rfl
theorem fits_of {op : Int} {xs : List V} (h1 : 1 ≤ op) (h2 : op ≤ 51) (hl : xs.length = (sigS op).length) (h : ∀ j : Nat, j < xs.length → letO (((sigS op).getD j 0).toNat : Int) (tagV (xs.getD j .junk)) (numV (xs.getD j .junk)) (kidsV (xs.getD j .junk)) = true) : fitsG op xs = true := by
  unfold fitsG
  rw [if_neg (by simp; omega), if_neg (by simp; omega), if_neg (by simp [hl])]
  refine dec_iff.2 fun m hm => ?_
  have e : (0 + (m : Int) * 1) = m := by omega
  rw [e] at hm ⊢
  have := h m (by omega)
  unfold okG getV
  have e2 : ((m : Int)).toNat = m := by omega
  rw [e2]
  exact this
theorem fits1 {op : Int} {a : V} {c0 : UInt8} (h1 : 1 ≤ op) (h2 : op ≤ 51) (hs : sigS op = [c0]) (ha : letO (c0.toNat : Int) (tagV a) (numV a) (kidsV a) = true) : fitsG op [a] = true := by
  refine fits_of h1 h2 (by rw [hs]; rfl) fun j hj => ?_
  rw [hs]
  simp at hj
  subst hj
  exact ha
theorem fits0 {op : Int} (h1 : 1 ≤ op) (h2 : op ≤ 51) (hs : sigS op = []) : fitsG op [] = true := by
  refine fits_of h1 h2 (by rw [hs]; rfl) fun j hj => ?_
  simp at hj
theorem fits2 {op : Int} {a b : V} {c0 c1 : UInt8} (h1 : 1 ≤ op) (h2 : op ≤ 51) (hs : sigS op = [c0, c1]) (ha : letO (c0.toNat : Int) (tagV a) (numV a) (kidsV a) = true) (hb : letO (c1.toNat : Int) (tagV b) (numV b) (kidsV b) = true) : fitsG op [a, b] = true := by
  refine fits_of h1 h2 (by rw [hs]; rfl) fun j hj => ?_
  rw [hs]
  simp at hj
  match j, hj with
  | 0, _ => exact ha
  | 1, _ => exact hb
theorem fits3 {op : Int} {a b d : V} {c0 c1 c2 : UInt8} (h1 : 1 ≤ op) (h2 : op ≤ 51) (hs : sigS op = [c0, c1, c2]) (ha : letO (c0.toNat : Int) (tagV a) (numV a) (kidsV a) = true) (hb : letO (c1.toNat : Int) (tagV b) (numV b) (kidsV b) = true) (hd : letO (c2.toNat : Int) (tagV d) (numV d) (kidsV d) = true) : fitsG op [a, b, d] = true := by
  refine fits_of h1 h2 (by rw [hs]; rfl) fun j hj => ?_
  rw [hs]
  simp at hj
  match j, hj with
  | 0, _ => exact ha
  | 1, _ => exact hb
  | 2, _ => exact hd
def l00 (op : Int) (ag : List V) (s : FS) : LK := ⟨m0, op, ag, s, s, [], !endS op, true⟩
theorem eff_of {op : Int} {ag : List V} {s : FS} {l : LK} (hf : fitsG op ag = true) (h3 : op ≠ 3) (hl : doesG (l00 op ag s) = l) (hts : l.s.ts = []) :
    effOk m0 op ag s = l.rt ∧ effO m0 op ag s = (if l.rt = true then (if l.g = true then l.o else zFS) else zFS) ∧ effE m0 op ag s = (if l.rt = true then l.es else []) ∧ effG m0 op ag s = (if l.rt = true then l.g else false) := by
  have e : effL m0 op ag s = l := by
    unfold effL
    have e1 : doesG ⟨m0, op, ag, s, s, [], !endS op, true⟩ = l := hl
    rw [e1, throws_nil hts]
  have e2 : effOk m0 op ag s = l.rt := by
    unfold effOk
    rw [hf, e]
    have : (op == 3) = false := by simpa using h3
    rw [this]; rfl
  refine ⟨e2, ?_, ?_, ?_⟩
  · unfold effO; rw [e2, e]
  · unfold effE; rw [e2, e]
  · unfold effG; rw [e2, e]
theorem b7_ok (args : List V) (k : V → Prop) (h : b7 args k) : ∃ r, CallP Try.prog 7 args r ∧ k r := by
  unfold b7 at h
  split at h
  · obtain ⟨f, rfl, hm, hs, hts, ht, h⟩ := h
    exact ⟨_, c7 _ _ _ _ hm hs hts ht, h _ rfl _ rfl _ rfl _ rfl⟩
  · exact h.elim
theorem mok0 : MOk m0 := ⟨fun v hv => (by cases hv), fun v hv => (by cases hv), fun v hv => (by cases hv), by decide, by decide⟩
theorem sok0 (f : Nat → Int × Int) (fr : Bool) (rm : Int) : SOkS ⟨f, fr, [], rm, []⟩ := ⟨fun v hv => (by cases hv), Nat.zero_le _, fun v hv => (by cases hv), Nat.zero_le _⟩
theorem t28 (t n : Int) : T28 (.agg [.int .i64 t, .int .i64 n, .list false []]) := .mk t n [] fun u hu => by cases hu
theorem b49_ok (args : List V) (k : V → Prop) (h : b49 args k) : ∃ r, CallP Try.prog 49 args r ∧ k r := by
  unfold b49 at h
  split at h
  · exact ⟨_, call_loops (hints := noHint) (prs := prsOf []) (Ls := noLs) (N := 2) spNil_ok Try.func49 Try.ntmps49 (by kernel_rfl) (noLoop_ok (by kernel_rfl)) ((n49 _).mpr rfl), h⟩
  · exact h.elim
theorem b14_ok (args : List V) (k : V → Prop) (h : b14 args k) : ∃ r, CallP Try.prog 14 args r ∧ k r := by
  unfold b14 at h
  split at h
  · rename_i xs
    exact ⟨_, call_loops (hints := noHint) (prs := prsOf []) (Ls := noLs) (N := 6) spNil_ok Try.func14 Try.ntmps14 (by kernel_rfl) (noLoop_ok (by kernel_rfl)) ((n14 xs _).mpr ⟨⟨⟨rfl, trivial⟩, h.1, rfl, rfl, _, rfl, by have := h.2.1; omega, by have := h.2.1; omega⟩, fun _ => ⟨rfl, rfl⟩⟩), h.2.2⟩
  · exact h.elim
theorem sp25_ok : SpOk Try.prog sp25 := spAdd_ok b49_ok spNil_ok
theorem lp25 : LsOk Try.prog 21 1003 [0, 2, 3, 4] [1000, 1001] ent25 (lcode Try.f25 0).2 := by
  intro vs ks1 K h
  unfold ent25 at h
  split at h
  · rename_i _ n i t0 X r
    obtain ⟨rfl, rfl, rfl, ⟨f0, rfl⟩, hK⟩ := h
    refine loop_rule (hints := hintOf [(5004, 66), (7004, 66)]) (prs := prsOf []) (Ls := noLs) sp25_ok ends25_0 (γ := Int × (Nat → Int × Int)) (fun g => [.int .i64 n, .ptr 1000 0 [], .ptr 1001 0 [], .int .i64 g.1]) (fun g => [⟨none, false, zS⟩, ⟨none, false, .agg [.agg (arrF 16 g.2), .bool false, .nils, .int .i64 0, .nils]⟩]) (fun g => (16 - g.1).toNat)
      (fun g => 0 ≤ g.1 ∧ g.1 ≤ 16 ∧ ∀ j : Nat, (j : Int) < g.1 → g.2 j = entF n j) K (noLoop_ok (by kernel_rfl)) ?_ (0, f0) ⟨Int.le_refl 0, by show (0 : Int) ≤ 16; decide, fun j hj => by simp only at hj; omega⟩
    rintro ⟨i, f⟩ ⟨h0, h16, hf⟩
    refine (nl25_0 f n i _ _ _).mpr ?_
    simp only at h0 h16 hf
    intro x0 hx0; subst hx0
    refine ⟨fun hx => ?_, fun hx => ?_⟩
    · simp only [decide_eq_true_eq] at hx
      refine ⟨h0, hx, offP h0 hx, subP rfl h0 hx, setF f i.toNat (0, -1), updP h0 hx, ?_⟩
      intro x5 hx5; subst hx5
      refine ⟨fun hx5 => ⟨h0, hx, offP h0 hx, subP rfl h0 hx, setF (setF f i.toNat (0, -1)) i.toNat (127, -1), updP h0 hx, ?_⟩, fun hx5 => ?_⟩
      · simp only [decide_eq_true_eq] at hx5
        intro x hxx
        rw [wrap_le h0 (by omega)] at hxx; subst hxx
        refine ⟨(i + 1, setF (setF f i.toNat (0, -1)) i.toNat (127, -1)), rfl, rfl, by show (16 - (i + 1)).toNat < (16 - i).toNat; omega, by show 0 ≤ i + 1; omega, by show i + 1 ≤ 16; omega, fun j hj => ?_⟩
        simp only [setF]
        split
        · rename_i e
          have : (j : Int) < n := by omega
          simp [entF, this]
        · exact hf j (by simp only at hj; omega)
      · simp only [decide_eq_false_iff_not] at hx5
        intro x hxx
        rw [wrap_le h0 (by omega)] at hxx; subst hxx
        refine ⟨(i + 1, setF f i.toNat (0, -1)), rfl, rfl, by show (16 - (i + 1)).toNat < (16 - i).toNat; omega, by show 0 ≤ i + 1; omega, by show i + 1 ≤ 16; omega, fun j hj => ?_⟩
        simp only [setF]
        split
        · rename_i e
          have : ¬ (j : Int) < n := by omega
          simp [entF, this]
        · exact hf j (by simp only at hj; omega)
    · simp only [decide_eq_false_iff_not] at hx
      have e : arrF 16 f = arrF 16 (entF n) := arr_congr fun j hj => hf j (by omega)
      rw [e]
      exact hK
  · exact h.elim
theorem c25 (n : Int) : CallP Try.prog 25 [.int .i64 n] (.agg [.agg (arrF 16 (entF n)), .bool false, .list false [], .int .i64 0, .list false []]) := by
  refine call_loops sp25_ok Try.func25 Try.ntmps25 (by kernel_rfl) (loopsOf_ok fun p hp => ?_) ((n25 n _).mpr ⟨rfl, rfl, rfl, ⟨zF, rfl⟩, rfl⟩)
  have e : loopsOf 0 (bodyOf Try.f25) = [lcode Try.f25 0] := by kernel_rfl
  rw [e] at hp
  simp only [List.mem_cons, List.not_mem_nil, or_false] at hp
  subst hp
  exact lsAdd_hit lp25

theorem b25_ok (args : List V) (k : V → Prop) (h : b25 args k) : ∃ r, CallP Try.prog 25 args r ∧ k r := by
  unfold b25 at h
  split at h
  · exact ⟨_, c25 _, h _ rfl⟩
  · exact h.elim

theorem sub3 (f : Nat → Int × Int) {i : Int} (h0 : 0 ≤ i) (h : i < ((16 : Nat) : Int)) :
    subQ (V.agg [V.agg (arrF 16 f), V.bool false, V.list false [], V.int IntKind.i64 0, V.list false []]) [0, i.toNat, 0] = some (.int .i64 (f i.toNat).1) ∧ offQ (V.agg [V.agg (arrF 16 f), V.bool false, V.list false [], V.int IntKind.i64 0, V.list false []]) [0, i.toNat, 0] = 0 + i.toNat * 2 + 0
    ∧ subQ (V.agg [V.agg (arrF 16 f), V.bool false, V.list false [], V.int IntKind.i64 0, V.list false []]) [0, i.toNat, 1] = some (.int .i64 (f i.toNat).2) ∧ offQ (V.agg [V.agg (arrF 16 f), V.bool false, V.list false [], V.int IntKind.i64 0, V.list false []]) [0, i.toNat, 1] = 0 + i.toNat * 2 + 1 := by
  have hk : i.toNat < 16 := by omega
  generalize i.toNat = k at hk
  rcases (by omega : k = 0 ∨ k = 1 ∨ k = 2 ∨ k = 3 ∨ k = 4 ∨ k = 5 ∨ k = 6 ∨ k = 7 ∨ k = 8 ∨ k = 9 ∨ k = 10 ∨ k = 11 ∨ k = 12 ∨ k = 13 ∨ k = 14 ∨ k = 15) with rfl | rfl | rfl | rfl | rfl | rfl | rfl | rfl | rfl | rfl | rfl | rfl | rfl | rfl | rfl | rfl <;> exact ⟨by kernel_rfl, by kernel_rfl, by kernel_rfl, by kernel_rfl⟩
theorem lp24 : LsOk Try.prog 58 1013 [1, 2, 3, 4] [1000, 1001, 1008, 1010] ent24 (lcode Try.f24 0).2 := by
  intro vs ks1 K h
  unfold ent24 at h
  split at h
  · rename_i i X r t0 Y q
    obtain ⟨rfl, rfl, rfl, rfl, ⟨g0, rfl⟩, f, rfl, hK⟩ := h
    refine loop_rule (hints := hintOf [(5014, 25), (5005, 3), (5010, 3)]) (prs := prsOf [(1, [[], [0], [], [2], [], [4], [5, 4], [1, 0, 3, 2, 6, 5, 4], [], [8, 7, 1, 0, 3, 2, 6, 5, 4]]), (5, [[], [], [], [2, 1], [3, 2, 1], [4, 3, 2, 1], [], [], [7, 6], [8, 7, 6], [9, 8, 7, 6], [5, 4, 3, 2, 1, 10, 9, 8, 7, 6], [], [12, 0, 1, 2, 3, 4, 5, 6, 7, 8, 9, 10, 11], [13, 12, 0, 1, 2, 3, 4, 5, 6, 7, 8, 9, 10, 11]]), (9, [[], [0], [], [2], [], [3, 2, 4], [5, 3, 2, 4], [6, 5, 3, 2, 4], [], [8], [], [9, 8, 10], [11, 9, 8, 10], [12, 11, 9, 8, 10], [7, 6, 5, 3, 2, 4, 13, 12, 11, 9, 8, 10], [14, 7, 6, 5, 3, 2, 4, 13, 12, 11, 9, 8, 10], [1, 0, 15, 14, 7, 6, 5, 3, 2, 4, 13, 12, 11, 9, 8, 10], [0, 1, 2, 3, 4, 5, 6, 7, 8, 9, 10, 11, 12, 13, 14, 15, 16], [17, 0, 1, 2, 3, 4, 5, 6, 7, 8, 9, 10, 11, 12, 13, 14, 15, 16]])]) (Ls := noLs) spNil_ok ends24_0 (γ := Int × (Nat → Int × Int)) (fun g => [.ptr 1000 0 [], .ptr 1001 0 [], .ptr 1010 0 [], .int .i64 g.1]) (fun g => [⟨none, false, .agg [.agg (arrF 16 f), .bool false, .list false [], .int .i64 0, .list false []]⟩, ⟨none, false, zS⟩, ⟨some 3, false, .agg []⟩, ⟨none, false, .agg [.agg (arrF 16 g.2), .bool false, .nils, .int .i64 0, .sl 1008 0]⟩]) (fun g => (16 - g.1).toNat)
      (fun g => 0 ≤ g.1 ∧ g.1 ≤ 16 ∧ ∀ j : Nat, (j : Int) < g.1 → g.2 j = f j) K (noLoop_ok (by kernel_rfl)) ?_ (0, g0) ⟨Int.le_refl 0, by show (0 : Int) ≤ 16; decide, fun j hj => by simp only at hj; omega⟩
    rintro ⟨i, g⟩ ⟨h0, h16, hf⟩
    refine (nl24_0 f g i _ _ _).mpr ?_
    simp only at h0 h16 hf
    intro x0 hx0; subst hx0
    refine ⟨fun hx => ?_, fun hx => ?_⟩
    · simp only [decide_eq_true_eq] at hx
      obtain ⟨q1, q2, q3, q4⟩ := sub3 f h0 hx
      refine ⟨h0, hx, _, q1, q2, h0, hx, _, q3, q4, h0, hx, offP h0 hx, subP rfl h0 hx, setF g i.toNat (f i.toNat), updP h0 hx, fun x hxx => ?_⟩
      rw [wrap_le h0 (by omega)] at hxx; subst hxx
      refine ⟨fun v hv => (by cases hv), (i + 1, setF g i.toNat (f i.toNat)), rfl, rfl, by show (16 - (i + 1)).toNat < (16 - i).toNat; omega, by show 0 ≤ i + 1; omega, by show i + 1 ≤ 16; omega, fun j hj => ?_⟩
      simp only [setF]
      split
      · rename_i e; rw [e]
      · exact hf j (by simp only at hj; omega)
    · simp only [decide_eq_false_iff_not] at hx
      have e : arrF 16 g = arrF 16 f := arr_congr fun j hj => hf j (by omega)
      rw [e]
      exact ⟨fun v hv => (by cases hv), hK⟩
  · exact h.elim
theorem lp24b : LsOk Try.prog 58 1014 [1, 2, 3, 5] [1000, 1001, 1008, 1010] ent24b (lcode Try.f24 1).2 := by
  intro vs ks1 K h
  unfold ent24b at h
  split at h
  · rename_i i X r t0 Y q
    obtain ⟨rfl, rfl, rfl, rfl, f, rfl, g, rfl, hK⟩ := h
    refine loop_rule (hints := noHint) (prs := prsOf [(1, [[], [0], [], [2], [], [4], [5, 4], [1, 0, 3, 2, 6, 5, 4], [], [8, 7, 1, 0, 3, 2, 6, 5, 4]]), (5, [[], [], [], [2, 1], [3, 2, 1], [4, 3, 2, 1], [], [], [7, 6], [8, 7, 6], [9, 8, 7, 6], [5, 4, 3, 2, 1, 10, 9, 8, 7, 6], [], [12, 0, 1, 2, 3, 4, 5, 6, 7, 8, 9, 10, 11], [13, 12, 0, 1, 2, 3, 4, 5, 6, 7, 8, 9, 10, 11]]), (9, [[], [0], [], [2], [], [3, 2, 4], [5, 3, 2, 4], [6, 5, 3, 2, 4], [], [8], [], [9, 8, 10], [11, 9, 8, 10], [12, 11, 9, 8, 10], [7, 6, 5, 3, 2, 4, 13, 12, 11, 9, 8, 10], [14, 7, 6, 5, 3, 2, 4, 13, 12, 11, 9, 8, 10], [1, 0, 15, 14, 7, 6, 5, 3, 2, 4, 13, 12, 11, 9, 8, 10], [0, 1, 2, 3, 4, 5, 6, 7, 8, 9, 10, 11, 12, 13, 14, 15, 16], [17, 0, 1, 2, 3, 4, 5, 6, 7, 8, 9, 10, 11, 12, 13, 14, 15, 16]])]) (Ls := noLs) spNil_ok ends24_1 (γ := Unit) (fun _ => [.ptr 1000 0 [], .ptr 1001 0 [], .ptr 1010 0 [], .int .i64 0]) (fun _ => [⟨none, false, .agg [.agg (arrF 16 f), .bool false, .list false [], .int .i64 0, .list false []]⟩, ⟨none, false, zS⟩, ⟨some 3, false, .agg []⟩, ⟨none, false, .agg [.agg (arrF 16 g), .bool false, .nils, .int .i64 0, .sl 1008 0]⟩]) (fun _ => 0) (fun _ => True) K (noLoop_ok (by kernel_rfl)) ?_ () trivial
    rintro _ -
    refine (nl24_1 f g 0 _ _ _).mpr ?_
    intro _ x1 hx1 x0 hx0
    subst hx1 hx0
    refine ⟨fun h => ?_, fun _ => ⟨fun v hv => (by cases hv), hK⟩⟩
    exact absurd h (by decide)
  · exact h.elim
theorem c24 (f : Nat → Int × Int) : CallP Try.prog 24 [.agg [.agg (arrF 16 f), .bool false, .list false [], .int .i64 0, .list false []]] (.agg [.agg (arrF 16 f), .bool false, .list false [], .int .i64 0, .list false []]) := by
  refine call_loops (Sp := sp24) spNil_ok Try.func24 Try.ntmps24 (by kernel_rfl) (loopsOf_ok fun p hp => ?_) ((n24 f _).mpr ?_)
  · have e : loopsOf 0 (bodyOf Try.f24) = [lcode Try.f24 0, lcode Try.f24 1] := by kernel_rfl
    rw [e] at hp
    simp only [List.mem_cons, List.not_mem_nil, or_false] at hp
    rcases hp with rfl | rfl
    · exact lsAdd_hit lp24
    · exact lsAdd_miss rfl (lsAdd_hit lp24b)
  · refine ⟨⟨⟨rfl, trivial⟩, fun v hv => (by cases hv), rfl, rfl, _, rfl, by decide, by decide⟩, fun v hv => (by cases hv), rfl, rfl, rfl, rfl, ⟨zF, rfl⟩, f, rfl, fun v hv => (by cases hv), rfl, rfl, rfl, rfl, f, rfl, f, rfl, rfl, rfl⟩
theorem b24_ok (args : List V) (k : V → Prop) (h : b24 args k) : ∃ r, CallP Try.prog 24 args r ∧ k r := by
  unfold b24 at h
  split at h
  · obtain ⟨rfl, f, rfl, h⟩ := h
    exact ⟨_, c24 f, h⟩
  · exact h.elim
theorem sp11_ok : SpOk Try.prog sp11 := spAdd_ok b25_ok (spAdd_ok b24_ok (spAdd_ok b12_ok (spAdd_ok b8_ok (spAdd_ok b7_ok spNil_ok))))
@[reducible] def xV (n : Int) : V := .agg [.int .i64 3, .int .i64 n, .list false []]
theorem awake4 : (doesG (l00 4 [xV 0, xV 3] ⟨entF 1, false, [], 0, []⟩)).rt = true ∧ (doesG (l00 4 [xV 0, xV 3] ⟨entF 1, false, [], 0, []⟩)).g = true ∧ (doesG (l00 4 [xV 0, xV 3] ⟨entF 1, false, [], 0, []⟩)).es = [] ∧ ((doesG (l00 4 [xV 0, xV 3] ⟨entF 1, false, [], 0, []⟩)).o.f 3).1 = 127 ∧ (doesG (l00 4 [xV 0, xV 3] ⟨entF 1, false, [], 0, []⟩)).s.ts = [] := by
  refine ⟨by kernel_rfl, by kernel_rfl, by kernel_rfl, by kernel_rfl, by kernel_rfl⟩
theorem awake11 (f : Nat → Int × Int) : (doesG (l00 11 [] ⟨f, true, [], 0, []⟩)).rt = false ∧ (doesG (l00 11 [] ⟨f, true, [], 0, []⟩)).s.ts = [] := by
  refine ⟨by kernel_rfl, by kernel_rfl⟩
theorem c11 : CallP Try.prog 11 [] (.bool true) := by
  refine call_loops sp11_ok Try.func11 Try.ntmps11 (by kernel_rfl) (noLoop_ok (by kernel_rfl)) ((n11 _).mpr ?_)
  intro f0 e0
  subst e0
  have hx : ∀ v, List.Mem v [V.agg [V.int IntKind.i64 3, V.int IntKind.i64 0, V.list false []], V.agg [V.int IntKind.i64 3, V.int IntKind.i64 3, V.list false []]] → V.sz v = 3 ∧ T28 v := fun v hv => by
    rcases List.mem_cons.1 hv with rfl | hv
    · exact ⟨rfl, t28 _ _⟩
    · rcases List.mem_cons.1 hv with rfl | hv
      · exact ⟨rfl, t28 _ _⟩
      · cases hv
  obtain ⟨a1, a2, a3, a4, a5⟩ := awake4
  obtain ⟨w1, w2⟩ := awake11 (entF 1)
  obtain ⟨e1, e2, e3, e4⟩ := eff_of (op := 4) (ag := [xV 0, xV 3]) (fits2 (by decide) (by decide) rfl rfl rfl) (by decide) rfl a5
  obtain ⟨d1, d2, d3, d4⟩ := eff_of (op := 11) (ag := []) (s := ⟨entF 1, true, [], 0, []⟩) (fits0 (by decide) (by decide) rfl) (by decide) rfl w2
  rw [a1] at e1 e2 e3 e4
  rw [a2] at e2 e4
  rw [a3] at e3
  rw [w1] at d1
  refine ⟨rfl, _, rfl, ⟨fun v hv => (hx v hv).1, by decide⟩, _, rfl, mok0, sok0 _ _ _, by decide, fun v hv => (hx v hv).2, fun o ho es hes g hg ok hok => ?_⟩
  refine ⟨⟨fun v hv => (by cases hv), by decide⟩, _, rfl, mok0, sok0 _ _ _, by decide, fun v hv => (by cases hv), fun o2 ho2 es2 hes2 g2 hg2 ok2 hok2 => ?_⟩
  have ho : o = (doesG (l00 4 [xV 0, xV 3] ⟨entF 1, false, [], 0, []⟩)).o := ho.trans e2
  have hes : es = [] := hes.trans e3
  have hg : g = true := hg.trans e4
  have hok : ok = true := hok.trans e1
  have hok2 : ok2 = false := hok2.trans d1
  subst ho hes hg hok hok2
  refine ⟨fun _ => ⟨fun _ _ x ex y ey => ?_, fun h => (by cases h)⟩, fun h => (by cases h)⟩
  subst ex ey
  refine ⟨fun _ => ⟨by decide, by decide, fun z ez => ?_⟩, fun h => absurd h (by decide)⟩
  have ez : z = ((((doesG (l00 4 [xV 0, xV 3] ⟨entF 1, false, [], 0, []⟩)).o.f 3).1 : Int) == 127) := ez
  rw [a4] at ez
  subst ez
  exact ⟨fun _ z ez => by subst ez; rfl, fun h => absurd h (by decide)⟩
theorem b11_ok (args : List V) (k : V → Prop) (h : b11 args k) : ∃ r, CallP Try.prog 11 args r ∧ k r := by
  unfold b11 at h
  split at h
  · exact ⟨_, c11, h⟩
  · exact h.elim

end GoL
