/- A part of the proof: a logic for programs of this kind, proved sound over the model; contracts of functions; plain laws. -/
import Derived.Test.YtilnfaogokjhlaaG7N
import Derived.Test.YtilnfaogokjhlaaG6P
set_option linter.all false
open Go Go.Proofs
namespace GoL
set_option linter.unusedVariables false
set_option linter.unusedSimpArgs false
set_option maxRecDepth 8000
attribute [local irreducible] wC
theorem sp5_ok : SpOk Try.prog sp5 := spAdd_ok b6_ok (spAdd_ok b8_ok (spAdd_ok b10_ok (spAdd_ok b7_ok (spAdd_ok b11_ok (spAdd_ok b12_ok (spAdd_ok b18_ok spNil_ok))))))
theorem sp3_ok : SpOk Try.prog sp3 := spAdd_ok b6_ok (spAdd_ok b9_ok (spAdd_ok b8_ok (spAdd_ok b10_ok (spAdd_ok b7_ok (spAdd_ok b11_ok (spAdd_ok b12_ok (spAdd_ok b13_ok (spAdd_ok b14_ok spNil_ok))))))))
theorem sp4_ok : SpOk Try.prog sp4 := spAdd_ok b6_ok (spAdd_ok b9_ok (spAdd_ok b8_ok (spAdd_ok b10_ok (spAdd_ok b7_ok (spAdd_ok b11_ok (spAdd_ok b15_ok (spAdd_ok b16_ok (spAdd_ok b17_ok spNil_ok))))))))
theorem place_in (x : Int) {n : Int} (h0 : 0 < n) (h1 : n ≤ 1000) : 0 ≤ place x n ∧ place x n < n := by
  have h2 : x.tmod n < n := Int.tmod_lt_of_pos x h0
  have h3 : -n < x.tmod n := by
    have := Int.lt_tmod_of_pos x h0
    omega
  unfold place
  by_cases h : x.tmod n < 0
  · rw [if_pos (by simpa using h), IntKind.wrap_i64]; omega
  · rw [if_neg (by simpa using h)]; omega
@[reducible] def fV (n : Int) : V := .agg [.int .i64 5, .int .i64 n, .list false []]
@[reducible] def uV (n : Int) : V := .agg [.int .i64 0, .int .i64 n, .list false []]
def lT (p q : Nat) : LK := l00 (21 + (p : Int)) [fV 9, xV 0] ⟨setF (entF 1) 0 ((q : Int), -1), false, [], 0, []⟩
def bitI (p : Nat) : Int := IntKind.i64.wrap (1 * 2 ^ min ((IntKind.u64.wrap (p : Int)).toNat) 64)
def rowB (q b : Int) : List V → Bool
  | [] => !(bits .andNot .i64 q b != 0)
  | [.agg [.int _ n, .agg (.agg (.agg [.int _ m, _] :: _) :: _)]] => (n == 9 && (m == bits .andNot .i64 q b && (bits .andNot .i64 q b != 0)))
  | _ => false
def tB (p q : Nat) : Bool := if q == 0 then !(testsLo (lT p q)).rt else ((testsLo (lT p q)).rt && ((testsLo (lT p q)).g == (bits .and .i64 (q : Int) (bitI p) != 0)) && rowB q (bitI p) (testsLo (lT p q)).es && (!(testsLo (lT p q)).g || (((testsLo (lT p q)).o.f 0).1 == bitI p)))
theorem tB_all : ((List.range 7).all fun p => (List.range 128).all fun q => tB p q) = true := by kernel_rfl
theorem tB_at {p q : Nat} (hp : p < 7) (hq : q < 128) : tB p q = true := by
  have := tB_all
  rw [List.all_eq_true] at this
  have := this p (List.mem_range.2 hp)
  rw [List.all_eq_true] at this
  exact this q (List.mem_range.2 hq)
theorem testsLo_s (l : LK) : (testsLo l).s = l.s := by
  unfold testsLo
  split <;> rfl
theorem testsLo_es (p q : Nat) : (testsLo (lT p q)).es = [] ∨ ∃ s, (testsLo (lT p q)).es = [.agg [.int .i64 9, fsV s]] := by
  unfold testsLo
  split
  · exact .inr ⟨_, rfl⟩
  · exact .inl rfl
theorem c5 (n k : Int) : CallP Try.prog 5 [.int .i64 n, .int .i64 k] (.bool true) := by
  refine call_loops sp5_ok Try.func5 Try.ntmps5 (by kernel_rfl) (noLoop_ok (by kernel_rfl)) ((n5 n k _).mpr ?_)
  obtain ⟨p1, p2⟩ := place_in n (n := 7) (by decide) (by decide)
  obtain ⟨q1, q2⟩ := place_in k (n := 128) (by decide) (by decide)
  obtain ⟨p, hp⟩ : ∃ p : Nat, place n 7 = p := ⟨(place n 7).toNat, by omega⟩
  obtain ⟨q, hq⟩ : ∃ q : Nat, place k 128 = q := ⟨(place k 128).toNat, by omega⟩
  rw [hp] at p1 p2 ⊢
  rw [hq] at q1 q2 ⊢
  have hT := tB_at (p := p) (q := q) (by omega) (by omega)
  have hw : IntKind.wrap IntKind.i64 (21 + (p : Int)) = 21 + (p : Int) := by rw [IntKind.wrap_i64]; omega
  have hu : 0 ≤ IntKind.wrap IntKind.u64 (p : Int) := by
    have : IntKind.wrap IntKind.u64 (p : Int) = p := by rw [IntKind.wrap_u64]; omega
    omega
  have hx : ∀ v, List.Mem v [fV 9, xV 0] → V.sz v = 3 ∧ T28 v := fun v hv => by
    rcases List.mem_cons.1 hv with rfl | hv
    · exact ⟨rfl, t28 _ _⟩
    · rcases List.mem_cons.1 hv with rfl | hv
      · exact ⟨rfl, t28 _ _⟩
      · cases hv
  have hop : (lT p q).op = 21 + (p : Int) := rfl
  have hl : doesG (l00 (21 + (p : Int)) [fV 9, xV 0] ⟨setF (entF 1) 0 ((q : Int), -1), false, [], 0, []⟩) = testsLo (lT p q) := by
    refine (dg_tests (l := lT p q) (by omega)).trans (testsG_lo ?_ ?_ ?_)
    · simp [hop]; omega
    · simp [hop]; omega
    · simp [hop]; omega
  have hs : sigS (21 + (p : Int)) = [108, 115] := by
    have : p < 7 := by omega
    rcases (by omega : p = 0 ∨ p = 1 ∨ p = 2 ∨ p = 3 ∨ p = 4 ∨ p = 5 ∨ p = 6) with rfl | rfl | rfl | rfl | rfl | rfl | rfl <;> rfl
  obtain ⟨e1, e2, e3, e4⟩ := eff_of (fits2 (by omega) (by omega) hs rfl rfl) (by omega) hl (by rw [testsLo_s]; rfl)
  refine ⟨by decide, by decide, let_ ?_⟩
  refine ⟨by decide, by decide, by kernel_rfl, ⟨_, rfl, rfl⟩, setF (entF 1) 0 ((q : Int), -1), by kernel_rfl, let_ ?_⟩
  rw [hw]
  refine ⟨⟨fun v hv => (hx v hv).1, by decide⟩, _, rfl, mok0, sok0 _ _ _, by decide, fun v hv => (hx v hv).2, let_ (let_ (let_ (let_ ?_)))⟩
  rw [e1, e2, e3, e4]
  refine ⟨rfl, fun _ => let_ ⟨hu, fun _ => let_ ?_⟩⟩
  show ∀ x, x = ((q : Int) == 0) → _
  unfold tB at hT
  refine br_e (fun h0 => ?_) (fun h0 => ?_)
  · have h0 : q = 0 := by simpa using h0
    rw [if_pos (by simp [h0])] at hT
    exact br_t hT (rfl : V.bool true = V.bool true)
  · have h0 : ¬ q = 0 := by simpa using h0
    rw [if_neg (by simp [h0])] at hT
    simp only [Bool.and_eq_true] at hT
    obtain ⟨⟨⟨t1, t2⟩, t3⟩, t4⟩ := hT
    rw [t1, if_pos rfl, if_pos rfl, if_pos rfl]
    have hg0 : (testsLo (lT p q)).g = (bits .and .i64 (q : Int) (bitI p) != 0) := by simpa using t2
    have hgo : (testsLo (lT p q)).g = true → (((testsLo (lT p q)).o.f 0).1 != bitI p) = false := fun h => by
      rw [h] at t4
      simpa using t4
    have hgx : ((testsLo (lT p q)).g != (bits .and .i64 (q : Int) (bitI p) != 0)) = false := by rw [hg0]; simp
    refine br_f rfl (let_ (let_ (br_f hgx ?_)))
    rcases testsLo_es p q with he | ⟨s', he⟩
    · rw [he] at t3 ⊢
      have t3 : (bits .andNot .i64 (q : Int) (bitI p) != 0) = false := by simpa [rowB] using t3
      have a1 : ((((([] : List V).length : Nat) : Int) == 1) != (bits .andNot .i64 (q : Int) (bitI p) != 0)) = false := by rw [t3]; rfl
      refine fun _ => let_ (let_ (let_ (let_ (br_f a1 fun _ => let_ (br_f rfl ⟨fun hg => ?_, fun hg => ?_⟩)))))
      · rw [if_pos hg]
        exact ⟨by decide, by decide, br_f (hgo hg) (let_ (br_t rfl rfl))⟩
      · exact let_ (br_t rfl rfl)
    · rw [he] at t3 ⊢
      have t3 : ((9 : Int) == 9 && (((s'.f 0).1 == bits .andNot .i64 (q : Int) (bitI p)) && (bits .andNot .i64 (q : Int) (bitI p) != 0))) = true := t3
      simp only [Bool.and_eq_true] at t3
      obtain ⟨-, t5, t6⟩ := t3
      have a1 : (((([V.agg [.int .i64 9, fsV s']].length : Nat) : Int) == 1) != (bits .andNot .i64 (q : Int) (bitI p) != 0)) = false := by rw [t6]; rfl
      refine fun _ => let_ (let_ (let_ (let_ (br_f a1 fun _ => let_ (br_f rfl ⟨fun hg => ?_, fun hg => ?_⟩)))))
      · rw [if_pos hg]
        refine ⟨by decide, by decide, br_f (hgo hg) (let_ (br_f rfl ⟨by decide, by simp, 9, s'.f, s'.fr, s'.ys, s'.rm, s'.ts, rfl, br_t rfl ?_⟩))⟩
        exact ⟨by decide, by simp, 9, s'.f, s'.fr, s'.ys, s'.rm, s'.ts, rfl, by decide, by decide, by rw [arr_len]; decide, rfl, _, _, rfl, let_ (br_t t5 rfl)⟩
      · refine let_ (br_f rfl ⟨by decide, by simp, 9, s'.f, s'.fr, s'.ys, s'.rm, s'.ts, rfl, br_t rfl ?_⟩)
        exact ⟨by decide, by simp, 9, s'.f, s'.fr, s'.ys, s'.rm, s'.ts, rfl, by decide, by decide, by rw [arr_len]; decide, rfl, _, _, rfl, let_ (br_t t5 rfl)⟩

@[reducible] def aV (n : Int) : V := .agg [.int .i64 2, .int .i64 n, .list false []]
@[reducible] def sV (xs : List V) : V := .agg [.int .i64 7, .int .i64 0, .list false xs]
@[reducible] def stP (f : Nat → Int × Int) (rm : Int) : FS := ⟨f, false, [], rm, []⟩
theorem does16 (w : Int) : (doesG (l00 16 [uV w, uV 1] (stP (entF 1) 0))).rt = decide (w ≤ 100) ∧ (doesG (l00 16 [uV w, uV 1] (stP (entF 1) 0))).g = true ∧ (doesG (l00 16 [uV w, uV 1] (stP (entF 1) 0))).o = stP (cutF (entF 1) 1) w ∧ (doesG (l00 16 [uV w, uV 1] (stP (entF 1) 0))).s.ts = [] := by
  have e : doesG (l00 16 [uV w, uV 1] (stP (entF 1) 0)) = framesG (l00 16 [uV w, uV 1] (stP (entF 1) 0)) := rfl
  rw [e]
  refine ⟨?_, rfl, rfl, rfl⟩
  have e1 : (framesG (l00 16 [uV w, uV 1] (stP (entF 1) 0))).rt = (if (if true = true then decide (w ≤ 100) else false) = true then (if liveB (entF 1) 1 = true then readyB false [] else false) else false) := rfl
  have e2 : liveB (entF 1) 1 = true := by kernel_rfl
  rw [e1, e2]
  cases decide (w ≤ 100) <;> rfl
theorem does17 {f : Nat → Int × Int} (hf : f 0 = (127, -1)) (rm : Int) : (doesG (l00 17 [xV 0, aV 0, xV 1] (stP f rm))).rt = decide (rm ≥ 2) ∧ (doesG (l00 17 [xV 0, aV 0, xV 1] (stP f rm))).g = true ∧ (2 ≤ rm → (doesG (l00 17 [xV 0, aV 0, xV 1] (stP f rm))).o = stP (setF f 1 (8, -1)) (IntKind.i64.wrap (rm - 2))) ∧ (doesG (l00 17 [xV 0, aV 0, xV 1] (stP f rm))).s.ts = [] := by
  have e0 : srcOk (l00 17 [xV 0, aV 0, xV 1] (stP f rm)) [xV 0, aV 0] = true := by
    show (if plain (meet (f 0).1 (f 0).2 (-1)).1 (meet (f 0).1 (f 0).2 (-1)).2 = true then _ else false) = true
    rw [hf]
    kernel_rfl
  have e1 : doesG (l00 17 [xV 0, aV 0, xV 1] (stP f rm)) = dstL ⟨m0, 17, [xV 0, aV 0, xV 1], stP f rm, stP f (IntKind.i64.wrap (rm - 2)), [], true, if (if true = true then srcOk (l00 17 [xV 0, aV 0, xV 1] (stP f rm)) [xV 0, aV 0] else false) = true then decide (rm ≥ 2) else false⟩ 3 1 8 (-1) := rfl
  rw [e0, if_pos rfl, if_pos rfl] at e1
  rw [e1]
  refine ⟨?_, rfl, fun h => ?_, rfl⟩
  · cases decide (rm ≥ 2) <;> rfl
  · have h : decide (rm ≥ 2) = true := by simpa using h
    rw [h]; rfl
theorem does18 {f : Nat → Int × Int} (hf : f 0 = (127, -1)) (rm : Int) : (doesG (l00 18 [sV [xV 0, xV 0], xV 2] (stP f rm))).rt = decide (rm ≥ 3) ∧ (doesG (l00 18 [sV [xV 0, xV 0], xV 2] (stP f rm))).g = true ∧ (3 ≤ rm → (doesG (l00 18 [sV [xV 0, xV 0], xV 2] (stP f rm))).o = stP (setF f 2 (16, 2)) (IntKind.i64.wrap (rm - 3))) ∧ (doesG (l00 18 [sV [xV 0, xV 0], xV 2] (stP f rm))).s.ts = [] := by
  have e0 : srcOk (l00 18 [sV [xV 0, xV 0], xV 2] (stP f rm)) [xV 0, xV 0] = true := by
    show (if plain (meet (f 0).1 (f 0).2 (-1)).1 (meet (f 0).1 (f 0).2 (-1)).2 = true then (if plain (meet (f 0).1 (f 0).2 (-1)).1 (meet (f 0).1 (f 0).2 (-1)).2 = true then _ else false) else false) = true
    rw [hf]
    kernel_rfl
  have e1 : doesG (l00 18 [sV [xV 0, xV 0], xV 2] (stP f rm)) = dstL ⟨m0, 18, [sV [xV 0, xV 0], xV 2], stP f rm, stP f (IntKind.i64.wrap (rm - 3)), [], true, if (if true = true then srcOk (l00 18 [sV [xV 0, xV 0], xV 2] (stP f rm)) [xV 0, xV 0] else false) = true then decide (rm ≥ 3) else false⟩ 3 2 16 2 := rfl
  rw [e0, if_pos rfl, if_pos rfl] at e1
  rw [e1]
  refine ⟨?_, rfl, fun h => ?_, rfl⟩
  · cases decide (rm ≥ 3) <;> rfl
  · have h : decide (rm ≥ 3) = true := by simpa using h
    rw [h]; rfl
theorem let_u {w : Int} (h0 : 0 ≤ w) (h1 : w ≤ 1000) : letO ((117 : UInt8).toNat : Int) 0 w [] = true := by
  have : letO ((117 : UInt8).toNat : Int) 0 w [] = (if (!(if decide (w ≥ 0) = true then decide (w ≤ 268435455) else false)) = true then false else true) := rfl
  rw [this, decide_eq_true h0, decide_eq_true (by omega : w ≤ 268435455)]
  rfl
theorem mem2 {P : V → Prop} {a b : V} (ha : P a) (hb : P b) : ∀ v, List.Mem v [a, b] → P v := fun v hv => by
  rcases List.mem_cons.1 hv with rfl | hv
  · exact ha
  · rcases List.mem_cons.1 hv with rfl | hv
    · exact hb
    · cases hv
theorem mem3 {P : V → Prop} {a b c : V} (ha : P a) (hb : P b) (hc : P c) : ∀ v, List.Mem v [a, b, c] → P v := fun v hv => by
  rcases List.mem_cons.1 hv with rfl | hv
  · exact ha
  · exact mem2 hb hc v hv
theorem mem1 {P : V → Prop} {a : V} (ha : P a) : ∀ v, List.Mem v [a] → P v := fun v hv => by
  rcases List.mem_cons.1 hv with rfl | hv
  · exact ha
  · cases hv
theorem lp3 : LsOk Try.prog 146 1040 [6, 7, 11] [1020] ent3 (lcode Try.f3 0).2 := by
  intro vs ks1 K h
  unfold ent3 at h
  split at h
  · rename_i many i X fr ys rm ts
    obtain ⟨rfl, rfl, rfl, rfl, r0, r1, hm, f, rfl, hf, hK⟩ := h
    refine loop_rule (hints := noHint) (prs := prsOf [(10, [[], [], [1], [2, 1], [1, 2, 3], [4, 1, 2, 3], [], [0, 5, 4, 1, 2, 3, 6], [7, 0, 5, 4, 1, 2, 3, 6], [8, 7, 0, 5, 4, 1, 2, 3, 6], [8, 7, 0, 5, 4, 1, 2, 3, 6], [8, 7, 0, 5, 4, 1, 2, 3, 6], [8, 7, 0, 5, 4, 1, 2, 3, 6], [], [13, 9, 8, 7, 0, 5, 4, 1, 2, 3, 6], [10, 8, 7, 0, 5, 4, 1, 2, 3, 6, 14, 13, 9], [11, 8, 7, 0, 5, 4, 1, 2, 3, 6, 15, 10, 14, 13, 9], [12, 8, 7, 0, 5, 4, 1, 2, 3, 6, 16, 11, 15, 10, 14, 13, 9]]), (17, [[], [], [1], [1, 2], [3, 1, 2], [4, 3, 1, 2], [4, 3, 1, 2, 5], [6, 4, 3, 1, 2, 5], [], [0, 7, 6, 4, 3, 1, 2, 5, 8], [9, 0, 7, 6, 4, 3, 1, 2, 5, 8], [10, 9, 0, 7, 6, 4, 3, 1, 2, 5, 8], [10, 9, 0, 7, 6, 4, 3, 1, 2, 5, 8], [10, 9, 0, 7, 6, 4, 3, 1, 2, 5, 8], [10, 9, 0, 7, 6, 4, 3, 1, 2, 5, 8], [], [15, 11, 10, 9, 0, 7, 6, 4, 3, 1, 2, 5, 8], [12, 10, 9, 0, 7, 6, 4, 3, 1, 2, 5, 8, 16, 15, 11], [13, 10, 9, 0, 7, 6, 4, 3, 1, 2, 5, 8, 17, 12, 16, 15, 11], [14, 10, 9, 0, 7, 6, 4, 3, 1, 2, 5, 8, 18, 13, 17, 12, 16, 15, 11]])]) (Ls := noLs) sp3_ok ends3_0 (γ := Int × Int × (Nat → Int × Int)) (fun g => [.int .i64 many, .ptr 1020 0 [], .int .i64 g.1]) (fun g => [⟨none, false, .agg [.agg (arrF 16 g.2.2), .bool false, .list false [], .int .i64 g.2.1, .list false []]⟩]) (fun g => (many - g.1).toNat)
      (fun g => 0 ≤ g.1 ∧ 0 ≤ g.2.1 ∧ g.2.1 ≤ 100 ∧ g.2.2 0 = (127, -1)) K (noLoop_ok (by kernel_rfl)) ?_ (0, rm, f) ⟨Int.le_refl 0, r0, r1, hf⟩
    rintro ⟨i, rm, f⟩ ⟨i0, r0, r1, hf⟩
    simp only at i0 r0 r1 hf
    refine (nl3_0 many i rm f _ _ _).mpr ?_
    obtain ⟨d1, d2, d3, d4⟩ := does17 hf rm
    obtain ⟨e1, e2, e3, e4⟩ := eff_of (s := stP f rm) (fits3 (op := 17) (by decide) (by decide) rfl rfl rfl rfl) (by decide) rfl d4
    refine br_e (fun hi => ?_) fun _ => hK f rm hf r0 r1
    have hi : i < many := by simpa using hi
    refine ⟨⟨mem3 rfl rfl rfl, by decide⟩, _, rfl, mok0, sok0 _ _ _, by decide, mem3 (t28 _ _) (t28 _ _) (t28 _ _), let_ (let_ (let_ (let_ ?_)))⟩
    rw [e1, e2, e4, d1, d2]
    refine let_ (br_f (by simp) (br_f (by cases decide (rm ≥ 2) <;> rfl) ?_))
    by_cases hr : 2 ≤ rm
    · rw [decide_eq_true (by exact hr : rm ≥ 2), if_pos rfl, if_pos rfl, d3 hr]
      have hw : IntKind.wrap IntKind.i64 (rm - 2) = rm - 2 := by rw [IntKind.wrap_i64]; omega
      have hwi : IntKind.wrap IntKind.i64 (i + 1) = i + 1 := by rw [IntKind.wrap_i64]; omega
      rw [hw]
      refine br_f rfl (let_ (br_f (by simp) ⟨by decide, by decide, br_f rfl (let_ ?_)⟩))
      rw [hwi]
      refine ⟨(i + 1, rm - 2, setF f 1 (8, -1)), rfl, rfl, by show (many - (i + 1)).toNat < (many - i).toNat; omega, by show 0 ≤ i + 1; omega, by show 0 ≤ rm - 2; omega, by show rm - 2 ≤ 100; omega, hf⟩
    · rw [decide_eq_false (by omega : ¬ rm ≥ 2)]
      exact br_t rfl (hK f rm hf r0 r1)
  · exact h.elim
theorem c3 (n k : Int) : CallP Try.prog 3 [.int .i64 n, .int .i64 k] (.bool true) := by
  refine call_loops (Sp := sp3) sp3_ok Try.func3 Try.ntmps3 (by kernel_rfl) (loopsOf_ok fun p hp => ?_) ((n3 n k _).mpr ?_)
  · have e : loopsOf 0 (bodyOf Try.f3) = [lcode Try.f3 0] := by kernel_rfl
    rw [e] at hp
    simp only [List.mem_cons, List.not_mem_nil, or_false] at hp
    subst hp
    exact lsAdd_hit lp3
  obtain ⟨w0, w1⟩ := place_in n (n := 103) (by decide) (by decide)
  obtain ⟨-, k1⟩ := place_in k (n := 20) (by decide) (by decide)
  generalize place n 103 = w at w0 w1
  obtain ⟨d1, d2, d3, d4⟩ := does16 w
  obtain ⟨e1, e2, e3, e4⟩ := eff_of (s := stP (entF 1) 0) (fits2 (op := 16) (a := uV w) (b := uV 1) (by decide) (by decide) rfl (let_u w0 (show w ≤ 1000 by omega)) (let_u (by decide) (by decide))) (by decide) rfl d4
  refine ⟨by decide, by decide, ⟨mem2 rfl rfl, by simp⟩, let_ ⟨_, rfl, mok0, sok0 _ _ _, by decide, mem2 (t28 _ _) (t28 _ _), let_ (let_ (let_ (let_ ?_)))⟩⟩
  rw [e1, e2, e4, d1, d2, d3]
  by_cases hw : w ≤ 100
  · rw [decide_eq_true hw, if_pos rfl, if_pos rfl, if_pos rfl]
    refine br_f (by simpa using hw) (br_f rfl (br_f rfl (br_f (by simp) ?_)))
    refine ⟨rfl, rfl, rfl, rfl, w0, hw, by omega, _, rfl, rfl, fun g q hg q0 q1 => ?_⟩
    obtain ⟨d1, d2, d3, d4⟩ := does18 hg q
    have hfit : fitsG 18 [sV [xV 0, xV 0], xV 2] = true := by
      refine fits2 (by decide) (by decide) rfl ?_ rfl
      have e : letO ((83 : UInt8).toNat : Int) (tagV (sV [xV 0, xV 0])) (numV (sV [xV 0, xV 0])) (kidsV (sV [xV 0, xV 0])) = dec (AllS (listP [xV 0, xV 0]) ([xV 0, xV 0] : List V).length 1 0) := rfl
      rw [e]
      refine dec_iff.2 fun m hm => ?_
      have hm : m = 0 ∨ m = 1 := by
        simp only [List.length_cons, List.length_nil] at hm
        omega
      rcases hm with rfl | rfl
      · exact ⟨rfl, rfl⟩
      · exact ⟨rfl, rfl⟩
    obtain ⟨e1, e2, e3, e4⟩ := eff_of (s := stP g q) hfit (by decide) rfl d4
    refine ⟨mem2 rfl rfl, by decide, ⟨mem2 rfl rfl, by decide⟩, _, rfl, mok0, sok0 _ _ _, by decide, mem2 (.mk _ _ _ (mem2 (t28 _ _) (t28 _ _))) (t28 _ _), let_ (let_ (let_ (let_ ?_)))⟩
    rw [e1, e2, d1, d2]
    refine let_ (br_t (by simp) ?_)
    by_cases hq : 3 ≤ q
    · rw [decide_eq_true (by exact hq : q ≥ 3), if_pos rfl, if_pos rfl, d3 hq]
      exact br_f rfl ⟨by decide, by decide, se25, fun _ => br_t rfl (let_ (br_t (by simp) rfl))⟩
    · rw [decide_eq_false (by omega : ¬ q ≥ 3)]
      exact br_t rfl ⟨fun _ => rfl, fun h => by cases h⟩
  · rw [decide_eq_false hw]
    exact br_t (by simpa using hw) (br_t rfl (br_t rfl rfl))

@[reducible] def yV (n : Int) : V := .agg [.int .i64 4, .int .i64 n, .list false []]
@[reducible] def stF (f : Nat → Int × Int) (ys : List V) : FS := ⟨f, true, ys, 0, []⟩
theorem ysI_zero : ∀ n : Nat, ysI n 0 = List.replicate n kE
  | 0 => rfl
  | n + 1 => by rw [ysI, ysI_zero n]; rfl
theorem ysI_len : ∀ n i : Nat, (ysI n i).length = n
  | 0, _ => rfl
  | n + 1, 0 => by simp [ysI, ysI_len n 0]
  | n + 1, i + 1 => by simp [ysI, ysI_len n i]
theorem ysI_kls : ∀ n i : Nat, KLs (ysI n i)
  | 0, _ => fun v hv => by cases hv
  | n + 1, 0 => fun v hv => by
    rcases List.mem_cons.1 hv with rfl | hv
    · exact ⟨_, _, rfl⟩
    · exact ysI_kls n 0 v hv
  | n + 1, i + 1 => fun v hv => by
    rcases List.mem_cons.1 hv with rfl | hv
    · exact ⟨_, _, rfl⟩
    · exact ysI_kls n i v hv
theorem ysI_get : ∀ {n i : Nat}, i < n → (ysI n i).getD i .junk = kE
  | n + 1, 0, _ => rfl
  | n + 1, i + 1, h => by
    have := ysI_get (n := n) (i := i) (by omega)
    simpa [ysI] using this
theorem ysI_set : ∀ {n i : Nat}, i < n → (ysI n i).set i kF = ysI n (i + 1)
  | n + 1, 0, _ => rfl
  | n + 1, i + 1, h => by
    have := ysI_set (n := n) (i := i) (by omega)
    simp [ysI, this]
theorem ysI_idx : ∀ (n : Nat) (i : Int), idxF (ysI n n) i = -1
  | 0, _ => rfl
  | n + 1, i => by
    show (if alikeK 4 (-1) 0 (-1) = true then i else idxF (ysI n n) (i + 1)) = -1
    rw [if_neg (by rw [show alikeK 4 (-1) 0 (-1) = false from by kernel_rfl]; decide)]
    exact ysI_idx n (i + 1)
theorem ysI_ready (n : Nat) : readyB true (ysI n n) = true := by
  show (!decide (idxF (ysI n n) 0 ≥ 0)) = true
  rw [ysI_idx]; rfl
theorem ysI_ready0 (n : Nat) : readyB true (ysI n 0) = ((n : Int) == 0) := by
  show (!decide (idxF (ysI n 0) 0 ≥ 0)) = _
  cases n with
  | zero => rfl
  | succ n =>
    have : idxF (ysI (n + 1) 0) 0 = 0 := by
      show (if alikeK 0 (-1) 0 (-1) = true then (0 : Int) else idxF (ysI n 0) (0 + 1)) = 0
      rw [if_pos (by kernel_rfl)]
    rw [this]
    have : ((n + 1 : Nat) : Int) ≠ 0 := by omega
    simp
    omega
theorem sokF (f : Nat → Int × Int) (n i : Nat) (h : n ≤ 100) : SOkS (stF f (ysI n i)) := ⟨ysI_kls n i, by show (ysI n i).length ≤ 1000; rw [ysI_len]; omega, fun v hv => (by cases hv), Nat.zero_le _⟩
theorem does12 (k l : Int) : (k ≤ 12 → liveB (entF 2) l = true → doesG (l00 12 [uV k, uV l] (stP (entF 2) 0)) = ⟨m0, 12, [uV k, uV l], stP (entF 2) 0, stF (cutF (entF 2) (clampN l)) (rep0 k), [], true, true⟩) ∧ (¬ k ≤ 12 ∨ liveB (entF 2) l = false → (doesG (l00 12 [uV k, uV l] (stP (entF 2) 0))).rt = false) ∧ (doesG (l00 12 [uV k, uV l] (stP (entF 2) 0))).s.ts = [] := by
  have e : doesG (l00 12 [uV k, uV l] (stP (entF 2) 0)) = (if (if true = true then (if decide (k ≤ 12) = true then liveB (entF 2) l else false) else false) = true then
      (⟨m0, 12, [uV k, uV l], stP (entF 2) 0, stF (cutF (entF 2) (clampN l)) (rep0 k), [], true, if true = true then (if decide (k ≤ 12) = true then liveB (entF 2) l else false) else false⟩ : LK)
      else ⟨m0, 12, [uV k, uV l], stP (entF 2) 0, stP (entF 2) 0, [], true, if true = true then (if decide (k ≤ 12) = true then liveB (entF 2) l else false) else false⟩) := rfl
  rw [e]
  refine ⟨fun h1 h2 => ?_, fun h => ?_, ?_⟩
  · rw [decide_eq_true h1, h2]; rfl
  · rcases h with h | h
    · rw [decide_eq_false h]; rfl
    · rw [h]
      cases decide (k ≤ 12) <;> rfl
  · generalize liveB (entF 2) l = b
    cases b <;> cases decide (k ≤ 12) <;> rfl
theorem does15 (f : Nat → Int × Int) {n i : Nat} (h : i < n) : doesG (l00 15 [yV i] (stF f (ysI n i))) = ⟨m0, 15, [yV i], stF f (ysI n i), stF f (ysI n (i + 1)), [], true, true⟩ := by
  have hp : putOk true (ysI n i) i = true := by
    have h1 : slotB true (ysI n i) i = true := by
      unfold slotB
      rw [ysI_len, decide_eq_true (by omega : (i : Int) ≥ 0), decide_eq_true (by omega : (i : Int) < n)]; rfl
    have h2 : getV (ysI n i) i = kE := ysI_get h
    show (if slotB true (ysI n i) i = true then maskOk (getV (ysI n i) i) else false) = true
    rw [h1, h2]; kernel_rfl
  have e : doesG (l00 15 [yV i] (stF f (ysI n i))) = ⟨m0, 15, [yV i], stF f (ysI n i), (if true = true then (if (if false = true then false else putOk true (ysI n i) i) = true then (stF f (if putOk true (ysI n i) i = true then putY (ysI n i) i 4 (-1) else ysI n i)) else stF f (ysI n i)) else stF f (ysI n i)), [], true, if true = true then (if false = true then false else putOk true (ysI n i) i) else false⟩ := rfl
  have e2 : putY (ysI n i) i 4 (-1) = ysI n (i + 1) := by
    rw [← ysI_set h]
    rfl
  rw [e, hp, e2]
  rfl
theorem does13 (f : Nat → Int × Int) (ys : List V) (n : Int) : doesG (l00 13 [uV n] (stF f ys)) = ⟨m0, 13, [uV n], stF f ys, ⟨f, false, [], 0, []⟩, [], true, if true = true then (if true = true then ((ys.length : Int) == n) else false) else false⟩ := rfl
theorem does11 (f : Nat → Int × Int) (ys : List V) : (doesG (l00 11 [] (stF f ys))).rt = false ∧ (doesG (l00 11 [] (stF f ys))).s.ts = [] := ⟨rfl, rfl⟩
theorem does14 (f : Nat → Int × Int) (ys : List V) (n : Int) : ∃ L, doesG (l00 14 [uV n] (stF f ys)) = L ∧ L.s.ts = [] ∧ L.rt = decide ((ys.length : Int) ≥ n) ∧ L.g = true ∧ (L.rt = true → L.o = stF f (ys.drop n.toNat)) := by
  have e : doesG (l00 14 [uV n] (stF f ys)) = (if (if true = true then (if true = true then decide ((ys.length : Int) ≥ n) else false) else false) = true then (⟨m0, 14, [uV n], stF f ys, stF f (ys.drop n.toNat), [], true, if true = true then (if true = true then decide ((ys.length : Int) ≥ n) else false) else false⟩ : LK) else ⟨m0, 14, [uV n], stF f ys, stF f ys, [], true, if true = true then (if true = true then decide ((ys.length : Int) ≥ n) else false) else false⟩) := rfl
  refine ⟨_, e, ?_⟩
  generalize decide ((ys.length : Int) ≥ n) = b
  cases b
  · exact ⟨rfl, rfl, rfl, fun h => by cases h⟩
  · exact ⟨rfl, rfl, rfl, fun _ => rfl⟩
theorem let_y {w : Int} (h0 : 0 ≤ w) (h1 : w < 12) : letO ((121 : UInt8).toNat : Int) 4 w [] = true := by
  obtain ⟨k, rfl⟩ : ∃ k : Nat, w = k := ⟨w.toNat, by omega⟩
  rcases (by omega : k = 0 ∨ k = 1 ∨ k = 2 ∨ k = 3 ∨ k = 4 ∨ k = 5 ∨ k = 6 ∨ k = 7 ∨ k = 8 ∨ k = 9 ∨ k = 10 ∨ k = 11) with rfl | rfl | rfl | rfl | rfl | rfl | rfl | rfl | rfl | rfl | rfl | rfl <;> rfl
theorem lp4 : LsOk Try.prog 199 1064 [7, 8, 10, 11, 15] [1010, 1025] ent4 (lcode Try.f4 0).2 := by
  intro vs ks1 K h
  unfold ent4 at h
  split at h
  · rename_i k t i m X fr ys rm ts
    obtain ⟨rfl, rfl, rfl, rfl, rfl, k0, k1, rfl, f, rfl, hK⟩ := h
    obtain ⟨n, rfl⟩ : ∃ n : Nat, k = n := ⟨k.toNat, by omega⟩
    have tn : Int.toNat (n : Int) = n := rfl
    rw [tn] at hK ⊢
    refine loop_rule (hints := noHint) (prs := prsOf [(3, [[], [], [1], [], [3, 2, 1], [2, 1, 4, 3], [5, 2, 1, 4, 3], [6, 5, 2, 1, 4, 3], [0, 6, 5, 2, 1, 4, 3, 7], [8, 0, 6, 5, 2, 1, 4, 3, 7], [9, 8, 0, 6, 5, 2, 1, 4, 3, 7], [9, 8, 0, 6, 5, 2, 1, 4, 3, 7], [9, 8, 0, 6, 5, 2, 1, 4, 3, 7], [9, 8, 0, 6, 5, 2, 1, 4, 3, 7], [], [14, 10, 9, 8, 0, 6, 5, 2, 1, 4, 3, 7], [11, 9, 8, 0, 6, 5, 2, 1, 4, 3, 7, 15, 14, 10], [12, 9, 8, 0, 6, 5, 2, 1, 4, 3, 7, 16, 11, 15, 14, 10], [13, 9, 8, 0, 6, 5, 2, 1, 4, 3, 7, 17, 12, 16, 11, 15, 14, 10]]), (11, [[], [], [1], [2, 1], [3, 2, 1], [], [0, 4, 3, 2, 1, 5], [6, 0, 4, 3, 2, 1, 5], [7, 6, 0, 4, 3, 2, 1, 5], [7, 6, 0, 4, 3, 2, 1, 5], [7, 6, 0, 4, 3, 2, 1, 5], [7, 6, 0, 4, 3, 2, 1, 5], [], [12, 8, 7, 6, 0, 4, 3, 2, 1, 5], [9, 7, 6, 0, 4, 3, 2, 1, 5, 13, 12, 8], [10, 7, 6, 0, 4, 3, 2, 1, 5, 14, 9, 13, 12, 8], [11, 7, 6, 0, 4, 3, 2, 1, 5, 15, 10, 14, 9, 13, 12, 8]]), (15, [[], [], [1], [2, 1], [3, 2, 1], [4, 3, 2, 1], [], [0, 5, 4, 3, 2, 1, 6], [7, 0, 5, 4, 3, 2, 1, 6], [8, 7, 0, 5, 4, 3, 2, 1, 6], [8, 7, 0, 5, 4, 3, 2, 1, 6], [8, 7, 0, 5, 4, 3, 2, 1, 6], [8, 7, 0, 5, 4, 3, 2, 1, 6], [], [13, 9, 8, 7, 0, 5, 4, 3, 2, 1, 6], [10, 8, 7, 0, 5, 4, 3, 2, 1, 6, 14, 13, 9], [11, 8, 7, 0, 5, 4, 3, 2, 1, 6, 15, 10, 14, 13, 9], [12, 8, 7, 0, 5, 4, 3, 2, 1, 6, 16, 11, 15, 10, 14, 13, 9]]), (16, [[], [], [], [0, 1, 2], [3, 0, 1, 2], [4, 3, 0, 1, 2], [4, 3, 0, 1, 2], [4, 3, 0, 1, 2], [4, 3, 0, 1, 2], [], [9, 5, 4, 3, 0, 1, 2], [6, 4, 3, 0, 1, 2, 10, 9, 5], [7, 4, 3, 0, 1, 2, 11, 6, 10, 9, 5], [8, 4, 3, 0, 1, 2, 12, 7, 11, 6, 10, 9, 5]]), (17, [[], [], [1], [2, 1], [3, 2, 1], [], [0, 4, 3, 2, 1, 5], [6, 0, 4, 3, 2, 1, 5], [7, 6, 0, 4, 3, 2, 1, 5], [7, 6, 0, 4, 3, 2, 1, 5], [7, 6, 0, 4, 3, 2, 1, 5], [7, 6, 0, 4, 3, 2, 1, 5], [], [12, 8, 7, 6, 0, 4, 3, 2, 1, 5], [9, 7, 6, 0, 4, 3, 2, 1, 5, 13, 12, 8], [10, 7, 6, 0, 4, 3, 2, 1, 5, 14, 9, 13, 12, 8], [11, 7, 6, 0, 4, 3, 2, 1, 5, 15, 10, 14, 9, 13, 12, 8]]), (22, [[], [], [], [1, 2], [3, 1, 2], [4, 3, 1, 2], [5, 4, 3, 1, 2], [], [0, 6, 5, 4, 3, 1, 2, 7], [8, 0, 6, 5, 4, 3, 1, 2, 7], [9, 8, 0, 6, 5, 4, 3, 1, 2, 7], [9, 8, 0, 6, 5, 4, 3, 1, 2, 7], [9, 8, 0, 6, 5, 4, 3, 1, 2, 7], [9, 8, 0, 6, 5, 4, 3, 1, 2, 7], [], [14, 10, 9, 8, 0, 6, 5, 4, 3, 1, 2, 7], [11, 9, 8, 0, 6, 5, 4, 3, 1, 2, 7, 15, 14, 10], [12, 9, 8, 0, 6, 5, 4, 3, 1, 2, 7, 16, 11, 15, 14, 10], [13, 9, 8, 0, 6, 5, 4, 3, 1, 2, 7, 17, 12, 16, 11, 15, 14, 10]])]) (Ls := noLs) sp4_ok ends4_0 (γ := Nat) (fun g => [.int .i64 n, .int .i64 t, .ptr 1010 0 [], .ptr 1025 0 [], .int .i64 g]) (fun g => [⟨none, false, .agg [.nils, .nils, .nils, .nils, .nils, .nils]⟩, ⟨none, false, .agg [.agg (arrF 16 f), .bool true, .list false (ysI n g), .int .i64 0, .list false []]⟩]) (fun g => n - g)
      (fun g => g ≤ n) K (noLoop_ok (by kernel_rfl)) ?_ 0 (Nat.zero_le _)
    intro g g0
    refine (nl4_0 n t g f (ysI n g) _ _ _).mpr ?_
    refine br_e (fun hx => ?_) fun hx => ?_
    · have hx : g < n := by simpa using hx
      have e := does15 f hx
      obtain ⟨e1, e2, e3, e4⟩ := eff_of (s := stF f (ysI n g)) (fits1 (op := 15) (a := yV g) (by decide) (by decide) rfl (let_y (show (0 : Int) ≤ g by omega) (show (g : Int) < 12 by omega))) (by decide) e rfl
      refine ⟨⟨mem1 rfl, by simp⟩, _, rfl, mok0, sokF f n g (by omega), by decide, mem1 (t28 _ _), let_ (let_ (let_ (let_ ?_)))⟩
      rw [e1, e2]
      refine br_f rfl (let_ ?_)
      have hw : IntKind.wrap IntKind.i64 ((g : Int) + 1) = ((g + 1 : Nat) : Int) := by rw [IntKind.wrap_i64]; omega
      rw [hw]
      exact ⟨g + 1, rfl, rfl, by show n - (g + 1) < n - g; omega, by show g + 1 ≤ n; omega⟩
    · have hx : ¬ (g : Int) < n := by simpa using hx
      have e : g = n := by omega
      subst e
      exact hK
  · exact h.elim
theorem c4 (n k l : Int) : CallP Try.prog 4 [.int .i64 n, .int .i64 k, .int .i64 l] (.bool true) := by
  refine call_loops (Sp := sp4) sp4_ok Try.func4 Try.ntmps4 (by kernel_rfl) (loopsOf_ok fun p hp => ?_) ((n4 n k l _).mpr ?_)
  · have e : loopsOf 0 (bodyOf Try.f4) = [lcode Try.f4 0] := by kernel_rfl
    rw [e] at hp
    simp only [List.mem_cons, List.not_mem_nil, or_false] at hp
    subst hp
    exact lsAdd_hit lp4
  obtain ⟨n0, n1⟩ := place_in n (n := 15) (by decide) (by decide)
  obtain ⟨k0, k1⟩ := place_in k (n := 15) (by decide) (by decide)
  obtain ⟨l0, l1⟩ := place_in l (n := 4) (by decide) (by decide)
  obtain ⟨p, hp⟩ : ∃ p : Nat, place n 15 = p := ⟨(place n 15).toNat, by omega⟩
  obtain ⟨q, hq⟩ : ∃ q : Nat, place k 15 = q := ⟨(place k 15).toNat, by omega⟩
  rw [hp] at n0 n1 ⊢
  rw [hq] at k0 k1 ⊢
  generalize place l 4 = w at l0 l1
  obtain ⟨d1, d2, d3⟩ := does12 p w
  have hfit : fitsG 12 [uV p, uV w] = true := fits2 (a := uV p) (b := uV w) (by decide) (by decide) rfl (let_u n0 (show (p : Int) ≤ 1000 by omega)) (let_u l0 (show w ≤ 1000 by omega))
  refine ⟨by decide, by decide, by decide, ⟨mem2 rfl rfl, by simp⟩, let_ ⟨_, rfl, mok0, sok0 _ _ _, by decide, mem2 (t28 _ _) (t28 _ _), let_ (let_ (let_ (let_ ?_)))⟩⟩
  by_cases hp12 : ¬ (p : Int) ≤ 12
  · obtain ⟨e1, e2, e3, e4⟩ := eff_of (s := stP (entF 2) 0) hfit (by decide) rfl d3
    rw [e1, d2 (.inl hp12)]
    exact br_t (by simp; omega) (br_t rfl rfl)
  have hp12 : (p : Int) ≤ 12 := by omega
  by_cases hw2 : w > 2
  · have hw3 : w = 3 := by omega
    subst hw3
    obtain ⟨e1, e2, e3, e4⟩ := eff_of (s := stP (entF 2) 0) hfit (by decide) rfl d3
    rw [e1, d2 (.inr (by kernel_rfl))]
    exact br_f (by simp; omega) (br_t (by decide) (br_t rfl rfl))
  have hl : liveB (entF 2) w = true ∧ liveB (cutF (entF 2) (clampN w)) (w + 1) = false := by
    rcases (by omega : w = 0 ∨ w = 1 ∨ w = 2) with rfl | rfl | rfl
    · exact ⟨by kernel_rfl, by kernel_rfl⟩
    · exact ⟨by kernel_rfl, by kernel_rfl⟩
    · exact ⟨by kernel_rfl, by kernel_rfl⟩
  obtain ⟨e1, e2, e3, e4⟩ := eff_of (s := stP (entF 2) 0) hfit (by decide) (d1 hp12 hl.1) rfl
  rw [e1, e2]
  have hr : rep0 (p : Int) = ysI p 0 := by rw [ysI_zero]; rfl
  rw [hr]
  have hw1 : IntKind.wrap IntKind.i64 (w + 1) = w + 1 := by rw [IntKind.wrap_i64]; omega
  have hpp : IntKind.wrap IntKind.i64 ((p : Int) + 1) = (p : Int) + 1 := by rw [IntKind.wrap_i64]; omega
  refine br_f (by simp; omega) (br_f (by simp; omega) (br_f rfl (br_f rfl ?_)))
  show (ysI p 0).length ≤ _ → _
  refine fun _ => let_ (br_f ?_ (let_e hw1 ⟨_, rfl, fun h => ?_, fun _ => ⟨⟨⟨_, rfl⟩, (sokF zF p 0 (by omega))⟩, let_ (br_f ?_ ?_)⟩⟩))
  · show ((((ysI p 0).length : Nat) : Int) != (p : Int)) = false
    rw [ysI_len]; simp
  · have h : liveB (cutF (entF 2) (clampN w)) (w + 1) = true := h
    rw [hl.2] at h; cases h
  · show (readyB true (ysI p 0) != _) = false
    rw [ysI_ready0]; simp
  refine ⟨rfl, rfl, rfl, rfl, rfl, n0, hp12, rfl, cutF (entF 2) (clampN w), rfl, let_e hpp ?_⟩
  have tp : Int.toNat (p : Int) = p := rfl
  rw [tp]
  generalize cutF (entF 2) (clampN w) = f
  have s1 := sokF f p p (by omega)
  obtain ⟨a1, a2, a3, a4⟩ := eff_of (s := stF f (ysI p p)) (fits1 (op := 13) (a := uV ((p : Int) + 1)) (by decide) (by decide) rfl (let_u (show (0 : Int) ≤ p + 1 by omega) (show (p : Int) + 1 ≤ 1000 by omega))) (by decide) (does13 f (ysI p p) ((p : Int) + 1)) rfl
  obtain ⟨w1, w2⟩ := does11 f (ysI p p)
  obtain ⟨b1, b2, b3, b4⟩ := eff_of (op := 11) (ag := []) (s := stF f (ysI p p)) (fits0 (by decide) (by decide) rfl) (by decide) rfl w2
  obtain ⟨L, h14, s14, r14, g14, o14⟩ := does14 f (ysI p p) q
  obtain ⟨c1, c2, c3, c4⟩ := eff_of (s := stF f (ysI p p)) (fits1 (op := 14) (a := uV q) (by decide) (by decide) rfl (let_u k0 (show (q : Int) ≤ 1000 by omega))) (by decide) h14 s14
  refine ⟨⟨mem1 rfl, by simp⟩, f, rfl, mok0, s1, by decide, mem1 (t28 _ _), let_ (let_ (let_ (let_ ?_)))⟩
  refine ⟨⟨fun v hv => (by cases hv), by decide⟩, f, rfl, mok0, s1, by decide, fun v hv => (by cases hv), let_ (let_ (let_ (let_ ?_)))⟩
  refine ⟨⟨mem1 rfl, by simp⟩, f, rfl, mok0, s1, by decide, mem1 (t28 _ _), let_ (let_ (let_ (let_ ?_)))⟩
  have hlen : (((ysI p p).length : Nat) : Int) = p := by rw [ysI_len]
  rw [hlen] at r14
  rw [r14] at o14
  rw [a1, b1, c1, c2, w1, r14, g14, hlen]
  refine ⟨fun h => ?_, fun _ => ⟨fun h => (by cases h), fun _ => let_ ?_⟩⟩
  · have h : ((p : Int) == (p : Int) + 1) = true := h
    simp at h
    omega
  by_cases hqp : (q : Int) ≤ p
  · have hx : decide ((p : Int) ≥ (q : Int)) = true := decide_eq_true hqp
    rw [hx, if_pos rfl, if_pos rfl, o14 hx]
    refine br_f rfl ⟨⟨⟨f, rfl⟩, s1⟩, br_f (by rw [ysI_ready]; rfl) (br_f rfl (let_ ?_))⟩
    have hpq : IntKind.wrap IntKind.i64 ((p : Int) - (q : Int)) = (p : Int) - (q : Int) := by rw [IntKind.wrap_i64]; omega
    rw [hpq]
    have s2 : SOkS (stF f ((ysI p p).drop (Int.toNat (q : Int)))) := ⟨fun v hv => ysI_kls p p v (List.mem_of_mem_drop hv), by show ((ysI p p).drop _).length ≤ 1000; rw [List.length_drop, ysI_len]; omega, fun v hv => (by cases hv), Nat.zero_le _⟩
    have hl2 : ((((ysI p p).drop (Int.toNat (q : Int))).length : Nat) : Int) = (p : Int) - (q : Int) := by
      rw [List.length_drop, ysI_len]
      have : Int.toNat (q : Int) = q := rfl
      omega
    obtain ⟨x1, x2, x3, x4⟩ := eff_of (s := stF f ((ysI p p).drop (Int.toNat (q : Int)))) (fits1 (op := 13) (a := uV ((p : Int) - (q : Int))) (by decide) (by decide) rfl (let_u (show (0 : Int) ≤ p - q by omega) (show (p : Int) - q ≤ 1000 by omega))) (by decide) (does13 f ((ysI p p).drop (Int.toNat (q : Int))) ((p : Int) - (q : Int))) rfl
    refine ⟨⟨mem1 rfl, by simp⟩, f, rfl, mok0, s2, Nat.zero_le _, mem1 (t28 _ _), let_ (let_ (let_ (let_ ?_)))⟩
    rw [x1, x2, hl2]
    refine ⟨fun _ => ?_, fun h => ?_⟩
    · have hb : ((p : Int) - (q : Int) == (p : Int) - (q : Int)) = true := by simp
      rw [hb]
      refine br_t rfl fun _ => let_ (let_ (br_t ?_ rfl))
      exact hb
    · simp at h
  · have hx : decide ((p : Int) ≥ (q : Int)) = false := decide_eq_false (by omega)
    rw [hx, if_neg (by decide)]
    exact br_f rfl ⟨⟨⟨f, rfl⟩, s1⟩, br_f (by rw [ysI_ready]; rfl) (br_t rfl rfl)⟩

end GoL
