/- A part of the proof: a logic for programs of this kind, proved sound over the model; contracts of functions; plain laws. -/
import Derived.Test.YtjnagpmhkpkngaaPN
import Derived.Test.YtjnagpmhkpkngaaFP
set_option linter.all false
open Go Go.Proofs
namespace GoL
set_option linter.unusedVariables false
set_option linter.unusedSimpArgs false
set_option maxRecDepth 8000
theorem t28L {t n : Int} {l : List V} (ht : -9223372036854775808 ≤ t ∧ t ≤ 9223372036854775807) (hn : -9223372036854775808 ≤ n ∧ n ≤ 9223372036854775807) (h : TyL l) (hl : l.length ≤ 100) : T28 (.agg [.int .i64 t, .int .i64 n, .list false l]) := by
  refine Typed.struct Try.underlying28 rfl fun i f v hf hv => ?_
  match i with
  | 0 => cases hf; cases hv; exact Typed.int Try.underlying3 ht
  | 1 => cases hf; cases hv; exact Typed.int Try.underlying3 hn
  | 2 =>
    cases hf; cases hv
    refine Typed.list Try.underlying26 ?_ h
    have e : Try.prog.bytesOf 28 = 40 := by kernel_rfl
    rw [e]
    show l.length * 40 ≤ 140737488351232
    omega
  | i + 3 => cases hv
abbrev nX (n : Int) : V := .agg [.int .i64 3, .int .i64 n, .list false []]
abbrev L33 (xs : List V) : List V := [.agg [.int .i64 3, .int .i64 0, .list false []], .agg [.int .i64 5, .int .i64 1, .list false []], .agg [.int .i64 7, .int .i64 0, .list false xs]]
theorem L33ty {xs : List V} (h : TyL xs) (hl : xs.length ≤ 100) : TyL (L33 xs) := by
  intro u hu
  rcases List.mem_cons.1 hu with rfl | hu
  · exact t28mk (by omega) (by omega)
  · rcases List.mem_cons.1 hu with rfl | hu
    · exact t28mk (by omega) (by omega)
    · rcases List.mem_cons.1 hu with rfl | hu
      · exact t28L (by omega) (by omega) h hl
      · cases hu
theorem L33sz (xs : List V) : (∀ v, List.Mem v (L33 xs) → V.sz v = 3) ∧ (L33 xs).length ≤ 1000 := by
  refine ⟨fun v hv => ?_, by show 3 ≤ 1000; omega⟩
  rcases List.mem_cons.1 hv with rfl | hv
  · rfl
  · rcases List.mem_cons.1 hv with rfl | hv
    · rfl
    · rcases List.mem_cons.1 hv with rfl | hv
      · rfl
      · cases hv
theorem sig33 : sigS 33 = [115, 108, 80] := by decide +kernel
theorem f33 {xs : List V} : fitsG 33 (L33 xs) = true ↔ (xs.length ≤ 40 ∧ inO xs) := by
  unfold fitsG
  rw [sig33]
  have e1 : decide ((33 : Int) < 1) = false := by decide
  have e2 : decide ((33 : Int) > 51) = false := by decide
  simp only [e1, e2, Bool.false_eq_true, if_false, List.length_cons, List.length_nil, bne_self_eq_false]
  rw [dec_iff, all_one]
  constructor
  · intro h
    have := h 2 (by omega) (by decide)
    unfold okG at this
    have hg : getV (L33 xs) 2 = .agg [.int .i64 7, .int .i64 0, .list false xs] := rfl
    rw [hg] at this
    simp only [tagV, numV, kidsV] at this
    have hc : (([115, 108, 80] : List UInt8).getD (2 : Int).toNat 0).toNat = 80 := by decide
    rw [hc] at this
    unfold letO bigO at this
    by_cases hl : (xs.length : Int) > 40
    · simp [hl] at this
    · simp [hl, dec_iff] at this
      exact ⟨by omega, this⟩
  · rintro ⟨h1, h2⟩ i h3 h4
    have h4 : i < 3 := h4
    have hc : i = 0 ∨ i = 1 ∨ i = 2 := by omega
    rcases hc with rfl | rfl | rfl
    · show letO 115 3 0 [] = true
      decide
    · show letO 108 5 1 [] = true
      decide
    · show letO 80 7 0 xs = true
      unfold letO bigO
      have hl : ¬ (xs.length : Int) > 40 := by omega
      simp [hl, dec_iff, h2]
theorem prow_len (ls : List V) : ∀ k, (prow ls k).length = 2 * k
  | 0 => rfl
  | k + 1 => by simp only [prow, List.length_append, prow_len ls k, List.length_cons, List.length_nil]; omega
theorem prow_get (ls : List V) : ∀ k j, j < k → getV (prow ls k) ((2 * j : Nat) : Int) = nI j ∧ getV (prow ls k) ((2 * j + 1 : Nat) : Int) = nF (1 + place (intV (getV ls (j : Nat))) 100)
  | 0, j, h => by omega
  | k + 1, j, h => by
    have hl := prow_len ls k
    have ge : ∀ (i : Nat), getV (prow ls (k + 1)) (i : Int) = if i < 2 * k then getV (prow ls k) (i : Int) else getV [nI k, nF (1 + place (intV (getV ls (k : Nat))) 100)] ((i - 2 * k : Nat) : Int) := by
      intro i
      unfold getV
      simp only [prow, List.getD_eq_getElem?_getD, Int.toNat_natCast]
      split
      · rw [List.getElem?_append_left (by omega)]
      · rw [List.getElem?_append_right (by omega), hl]
        rfl
    by_cases e : j = k
    · subst e
      rw [ge, ge, if_neg (by omega), if_neg (by omega), Nat.sub_self, show 2 * j + 1 - 2 * j = 1 by omega]
      exact ⟨rfl, rfl⟩
    · rw [ge, ge, if_pos (by omega), if_pos (by omega)]
      exact prow_get ls k j (by omega)
theorem prow_two {ls : List V} {k : Nat} {i : Int} (h0 : 0 ≤ i) (h1 : i < (prow ls k).length) : (i % 2 = 0 ∧ getV (prow ls k) i = nI (i / 2)) ∨ (i % 2 = 1 ∧ ∃ m : Int, 1 ≤ m ∧ m ≤ 100 ∧ getV (prow ls k) i = nF m) := by
  have hl := prow_len ls k
  obtain ⟨a, b⟩ := prow_get ls k (i / 2).toNat (by omega)
  by_cases e : i % 2 = 0
  · refine .inl ⟨e, ?_⟩
    have e1 : ((2 * (i / 2).toNat : Nat) : Int) = i := by omega
    have e2 : (((i / 2).toNat : Nat) : Int) = i / 2 := by omega
    rw [e1, e2] at a
    exact a
  · have hp := place_in (y := intV (getV ls ((i / 2).toNat : Nat))) (n := 100) (by omega) (by omega)
    refine .inr ⟨by omega, 1 + place (intV (getV ls ((i / 2).toNat : Nat))) 100, by omega, by omega, ?_⟩
    have e1 : ((2 * (i / 2).toNat + 1 : Nat) : Int) = i := by omega
    rw [e1] at b
    exact b
theorem prow_ty {ls : List V} {k : Nat} (hk : k ≤ 15) : TyL (prow ls k) := by
  intro u hu
  obtain ⟨j, hj, rfl⟩ := List.getElem_of_mem hu
  have hl := prow_len ls k
  have hg : getV (prow ls k) (j : Int) = (prow ls k)[j] := by
    unfold getV
    rw [List.getD_eq_getElem?_getD, Int.toNat_natCast, List.getElem?_eq_getElem hj]
    rfl
  rcases prow_two (ls := ls) (k := k) (i := (j : Int)) (by omega) (by omega) with ⟨_, e⟩ | ⟨_, m, m1, m2, e⟩
  · rw [← hg, e]; exact t28mk (by omega) (by omega)
  · rw [← hg, e]; exact t28mk (by omega) (by omega)
theorem tm2 {i : Int} (h : 0 ≤ i) : i.tmod 2 = i % 2 := Int.tmod_eq_emod_of_nonneg h
theorem good {ls : List V} {k : Nat} (hk : k ≤ 15) : inO (prow ls k) := by
  unfold inO
  have hl := prow_len ls k
  rw [tm2 (by omega), all_one]
  refine ⟨by omega, fun i h0 h1 => ?_⟩
  unfold okO
  rw [tm2 h0]
  rcases prow_two (ls := ls) (k := k) h0 h1 with ⟨e, g⟩ | ⟨e, m, m1, m2, g⟩
  · rw [g]
    refine ⟨?_, fun h => by omega, fun _ => ⟨.inl rfl, ?_⟩⟩
    · show plainB 1 (i / 2) [] = true
      unfold plainB
      simp
      omega
    · rw [all_two]
      intro j j0 j1 j2
      unfold diffP
      rw [g]
      rcases prow_two (ls := ls) (k := k) j0 (by omega) with ⟨e', g'⟩ | ⟨e', m, m1, m2, g'⟩
      · rw [g']
        simp only [nI, tagV, numV]
        omega
      · omega
  · rw [g]
    refine ⟨?_, fun _ => ⟨rfl, ?_⟩, fun h => absurd e h⟩
    · show plainB 5 m [] = true
      unfold plainB
      simp
      omega
    · show m > 0
      omega
theorem getV_app1 {xs ys : List V} {i : Int} (h0 : 0 ≤ i) (h : i < xs.length) : getV (xs ++ ys) i = getV xs i := by
  unfold getV
  rw [List.getD_eq_getElem?_getD, List.getD_eq_getElem?_getD, List.getElem?_append_left (by omega)]
theorem getV_app2 {xs ys : List V} : getV (xs ++ ys) (xs.length : Int) = getV ys 0 := by
  unfold getV
  rw [List.getD_eq_getElem?_getD, List.getD_eq_getElem?_getD, List.getElem?_append_right (by omega)]
  simp
theorem bad_twice {ls : List V} {k : Nat} (h1 : 1 ≤ k) : ¬ inO (prow ls k ++ [.agg [.int .i64 1, .int .i64 0, .list false []], .agg [.int .i64 5, .int .i64 9, .list false []]]) := by
  intro h
  have hl := prow_len ls k
  have h2 := h.2
  rw [all_one] at h2
  have := h2 ((prow ls k).length : Int) (by omega) (by simp; omega)
  unfold okO at this
  rw [tm2 (by omega)] at this
  have h3 := (this.2.2 (by omega)).2
  rw [all_two] at h3
  have h4 := h3 0 (by omega) (by omega) (by omega)
  apply h4
  rw [getV_app2, getV_app1 (by omega) (by omega)]
  obtain ⟨a, _⟩ := prow_get ls k 0 (by omega)
  rw [show ((2 * 0 : Nat) : Int) = 0 by rfl] at a
  rw [a]
  exact ⟨rfl, rfl⟩
theorem bad_cut {ls : List V} {k : Nat} (h1 : 1 ≤ k) {ys : List V} (hy : ys.length + 1 = (prow ls k).length) : ¬ inO ys := by
  intro h
  have hl := prow_len ls k
  have := h.1
  rw [tm2 (by omega)] at this
  omega
theorem getV_set {xs : List V} {j : Nat} {e : V} (h : j < xs.length) : getV (xs.set j e) (j : Int) = e := by
  unfold getV
  rw [List.getD_eq_getElem?_getD, Int.toNat_natCast, List.getElem?_set_self h]
  rfl
theorem bad_one {ls : List V} {k : Nat} (h1 : 1 ≤ k) : ¬ inO ((prow ls k).set 1 (.agg [.int .i64 5, .int .i64 0, .list false []])) := by
  intro h
  have hl := prow_len ls k
  have h2 := h.2
  rw [all_one] at h2
  have := h2 1 (by omega) (by simp; omega)
  unfold okO at this
  have h3 := (this.2.1 (by decide)).2
  have e := getV_set (xs := prow ls k) (j := 1) (e := .agg [.int .i64 5, .int .i64 0, .list false []]) (by omega)
  have e : getV ((prow ls k).set 1 (.agg [.int .i64 5, .int .i64 0, .list false []])) 1 = .agg [.int .i64 5, .int .i64 0, .list false []] := e
  rw [e] at h3
  have h3 : (0 : Int) > 0 := h3
  omega
theorem bad_zero {ls : List V} {k : Nat} (h1 : 1 ≤ k) : ¬ inO ((prow ls k).set 0 (.agg [.int .i64 3, .int .i64 1, .list false []])) := by
  intro h
  have hl := prow_len ls k
  have h2 := h.2
  rw [all_one] at h2
  have := h2 0 (by omega) (by simp; omega)
  unfold okO at this
  have h3 := (this.2.2 (by decide)).1
  have e := getV_set (xs := prow ls k) (j := 0) (e := .agg [.int .i64 3, .int .i64 1, .list false []]) (by omega)
  have e : getV ((prow ls k).set 0 (.agg [.int .i64 3, .int .i64 1, .list false []])) 0 = .agg [.int .i64 3, .int .i64 1, .list false []] := e
  rw [e] at h3
  simp only [tagV] at h3
  omega
end GoL
