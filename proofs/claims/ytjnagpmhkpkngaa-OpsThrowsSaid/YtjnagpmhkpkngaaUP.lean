/- A part of the proof: a logic for programs of this kind, proved sound over the model; contracts of functions; plain laws. -/
import Derived.Test.YtjnagpmhkpkngaaUN
set_option linter.all false
open Go Go.Proofs
namespace GoL
set_option linter.unusedVariables false
set_option linter.unusedSimpArgs false
set_option maxRecDepth 8000
theorem sp25_ok : SpOk Try.prog sp25 := spAdd_ok b19_ok (spNil_ok)
theorem fitsB_len {op : Int} {xs : List V} (h : fitsB op xs = true) : xs.length = (sigS op).length := by
  unfold fitsB at h
  split at h
  · cases h
  · split at h
    · cases h
    · split at h
      · cases h
      · rename_i h3
        have h4 : (xs.length : Int) = ((sigS op).length : Int) := by simpa using h3
        omega
theorem hd35 {op : Int} {xs : List V} {c : UInt8} {r : List UInt8} (hs : sigS op = c :: r) (hp : xs.length = (sigS op).length → fitOk (sigS op) xs) (h : fitsB op xs = true) : 0 < (xs.length : Int) ∧ ∃ (t n : Int) (l : List V), getV xs 0 = V.agg [V.int IntKind.i64 t, V.int IntKind.i64 n, V.list false l] := by
  have hf := hp (fitsB_len h)
  rw [hs] at hf
  match xs, hf with
  | v :: l, hf =>
    obtain ⟨⟨_, _, t, n, ls, e⟩, _⟩ := hf
    exact ⟨by simp only [List.length_cons]; omega, t, n, ls, e⟩
theorem c25 (op : Int) (xs : List V) (hp : xs.length = (sigS op).length → fitOk (sigS op) xs) : CallP Try.prog 25 [.agg [.int .i64 op, .list false xs]] (.bool (throwsB op xs)) := by
  refine call_plain sp25_ok Try.func25 Try.ntmps25 (by kernel_rfl) ((n25 op xs _).mpr ⟨hp, ?_⟩)
  intro x hx
  subst hx
  refine ⟨fun h => by simp only [throwsB, h, if_true], fun h0 => ?_⟩
  have hft : fitsB op xs = true := by simpa using h0
  have key : ∀ (c : UInt8) (r : List UInt8), sigS op = c :: r → 0 < (xs.length : Int) ∧ ∃ (t n : Int) (l : List V), getV xs 0 = V.agg [V.int IntKind.i64 t, V.int IntKind.i64 n, V.list false l] := fun c r hs => hd35 hs hp hft
  (repeat' (first | (refine And.intro ?_ ?_) | (intro x hx; subst hx) | (intro _)))
  all_goals first
    | decide
    | (simp only [throwsB, *, Bool.not_true, Bool.not_false, if_true, if_false, Bool.false_eq_true, ↓reduceIte]; done)
    | (rename_i ho; exact (key 102 _ (by rw [eq_of_beq ho]; rfl)).1)
    | (rename_i ho; obtain ⟨_, t, n, l, e⟩ := key 102 _ (by rw [eq_of_beq ho]; rfl); exact ⟨t, n, l, e, fun x hx => by subst hx; simp only [throwsB, N0, e, *, Bool.not_true, Bool.not_false, if_true, if_false, Bool.false_eq_true, ↓reduceIte]⟩)
    | skip
theorem b25_ok (args : List V) (k : V → Prop) (h : b25 args k) : ∃ r, CallP Try.prog 25 args r ∧ k r := by
  unfold b25 at h
  split at h
  · exact ⟨_, c25 _ _ h.1, h.2⟩
  · exact h.elim
def okB : List UInt8 → List V → Bool
  | c :: r, v :: l => (match v with | .agg [.int .i64 _, .int .i64 _, .list false _] => true | _ => false) && (((c.toNat : Int) == 83) == false && (((c.toNat : Int) == 80) == false && okB r l))
  | [], [] => true
  | _, _ => false
theorem okB_ok : ∀ {s : List UInt8} {l : List V}, okB s l = true → fitOk s l
  | c :: r, v :: l, h => by
    simp only [okB, Bool.and_eq_true, beq_iff_eq] at h
    obtain ⟨h1, h2, h3, h4⟩ := h
    refine ⟨⟨h2, h3, ?_⟩, okB_ok h4⟩
    split at h1
    · exact ⟨_, _, _, rfl⟩
    · cases h1
  | [], [], _ => trivial
  | [], _ :: _, h => by cases h
  | _ :: _, [], h => by cases h
def sz3B (l : List V) : Bool := l.all fun v => V.sz v == 3
theorem sz3B_ok {l : List V} (h : sz3B l = true) : ∀ v, List.Mem v l → V.sz v = 3 := fun v hv => by
  have := List.all_eq_true.1 h v hv
  simpa using this
theorem place_rng (x n : Int) (h0 : 0 < n) (h : n < 4611686018427387904) : 0 ≤ place x n ∧ place x n < n := by
  unfold place
  have h1 := Int.tmod_lt_of_pos x h0
  have h2 : -n < x.tmod n := Int.lt_tmod_of_pos x h0
  simp only [decide_eq_true_eq]
  split
  · rw [IntKind.wrap_i64]; omega
  · omega
theorem fin7 {n6 : Int} {l7 : List V} {q : Int} (h1 : okB (sigS n6) l7 = true) (h2 : fitsB n6 l7 = true) (h3 : (throwsB n6 l7 == (q == 0)) = true) (h4 : endS n6 = false) : (l7.length = (sigS n6).length → fitOk (sigS n6) l7) ∧ (fitsB n6 l7 = true → (l7.length = (sigS n6).length → fitOk (sigS n6) l7) ∧ ∀ (x11 : Bool), x11 = (q == 0) → ∀ (x13 : Bool), x13 = (throwsB n6 l7 == x11) → (x13 = true → ∀ (x16 : Bool), x16 = !endS n6 → (x16 = true → V.bool true = V.bool true) ∧ (x16 = false → V.bool true = V.bool false)) ∧ (x13 = false → V.bool true = V.bool false)) ∧ (fitsB n6 l7 = false → V.bool true = V.bool false) := by
  refine ⟨fun _ => okB_ok h1, fun _ => ⟨fun _ => okB_ok h1, fun a ha b hb => ?_⟩, fun h => ?_⟩
  · subst ha
    rw [h3] at hb
    subst hb
    refine ⟨fun _ c hc => ?_, fun h => by cases h⟩
    rw [h4] at hc
    subst hc
    exact ⟨fun _ => rfl, fun h => by cases h⟩
  · rw [h2] at h; cases h
theorem sp7_ok : SpOk Try.prog sp7 := spAdd_ok b12_ok (spAdd_ok b14_ok (spAdd_ok b16_ok (spAdd_ok b17_ok (spAdd_ok b18_ok (spAdd_ok b19_ok (spAdd_ok b20_ok (spAdd_ok b21_ok (spAdd_ok b25_ok (spAdd_ok b27_ok (spNil_ok))))))))))
theorem c7 (x y : Int) : CallP Try.prog 7 [.int .i64 x, .int .i64 y] (.bool true) := by
  refine call_plain sp7_ok Try.func7 Try.ntmps7 (by kernel_rfl) ((n7 x y _).mpr ?_)
  obtain ⟨hk0, hk1⟩ := place_rng x 3 (by decide) (by decide)
  obtain ⟨hl0, hl1⟩ := place_rng y 5 (by decide) (by decide)
  generalize place x 3 = k at *
  generalize place y 5 = l at *
  refine ⟨by decide, by decide, ⟨sz3B_ok (by kernel_rfl), (by simp only [List.length_cons, List.length_nil]; decide)⟩, ⟨sz3B_ok (by kernel_rfl), (by simp only [List.length_cons, List.length_nil]; decide)⟩, ⟨sz3B_ok (by kernel_rfl), (by simp only [List.length_cons, List.length_nil]; decide)⟩, hk0, hk1, hk1, ?_⟩
  have hk : k = 0 ∨ k = 1 ∨ k = 2 := by omega
  have hl : l = 0 ∨ l = 1 ∨ l = 2 ∨ l = 3 ∨ l = 4 := by omega
  rcases hk with rfl | rfl | rfl <;> refine ⟨by kernel_rfl, _, _, rfl, ?_⟩ <;> rcases hl with rfl | rfl | rfl | rfl | rfl <;> exact fin7 (by kernel_rfl) (by kernel_rfl) (by kernel_rfl) (by kernel_rfl)
end GoL
