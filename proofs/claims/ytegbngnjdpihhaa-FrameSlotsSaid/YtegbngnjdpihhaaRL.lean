/- A part of the proof: a logic for programs of this kind, proved sound over the model; contracts of functions; plain laws. -/
import Derived.Test.YtegbngnjdpihhaaRD
set_option linter.all false
open Go Go.Proofs
namespace GoL
set_option linter.unusedVariables false
set_option linter.unusedSimpArgs false
/-! plain laws of entries -/
theorem j_aa : join 127 (-1) 127 (-1) = (127, -1) := by decide +kernel
theorem j_an : join 127 (-1) 0 (-1) = (0, -1) := by decide +kernel
theorem j_na : join 0 (-1) 127 (-1) = (0, -1) := by decide +kernel
theorem j_nn : join 0 (-1) 0 (-1) = (0, -1) := by decide +kernel
theorem g_a : goodK 127 (-1) = true := by decide +kernel
theorem g_n : goodK 0 (-1) = false := by decide +kernel
theorem al_an : alikeK 127 (-1) 0 (-1) = false := by decide +kernel
theorem al_na : alikeK 0 (-1) 127 (-1) = false := by decide +kernel
theorem al_refl (m a : Int) : alikeK m a m a = true := by simp [alikeK]
theorem joinE (p q : Int) : joinF (entF p) (entF q) = entF (if q < p then q else p) := by
  funext i
  simp only [joinF, entF]
  by_cases h1 : (i : Int) < p <;> by_cases h2 : (i : Int) < q
  · rw [if_pos h1, if_pos h2, if_pos (by split <;> omega)]; exact j_aa
  · rw [if_pos h1, if_neg h2, if_neg (by split <;> omega)]; exact j_an
  · rw [if_neg h1, if_pos h2, if_neg (by split <;> omega)]; exact j_na
  · rw [if_neg h1, if_neg h2, if_neg (by split <;> omega)]; exact j_nn
theorem cutE (p c : Int) : cutF (entF p) c = entF (if c < p then c else p) := by
  funext i
  simp only [cutF, entF]
  by_cases h1 : (i : Int) < c <;> by_cases h2 : (i : Int) < p
  · rw [if_pos h1, if_pos h2, if_pos (by split <;> omega)]
  · rw [if_pos h1, if_neg h2, if_neg (by split <;> omega)]
  · rw [if_neg h1, if_neg (by split <;> omega)]
  · rw [if_neg h1, if_neg (by split <;> omega)]
theorem entE {p q : Int} (hp : 16 ≤ p) (hq : 16 ≤ q) : arrF 16 (entF p) = arrF 16 (entF q) := by
  apply List.map_congr_left
  intro i hi
  have : i < 16 := by simpa using hi
  have h1 : (i : Int) < p := by omega
  have h2 : (i : Int) < q := by omega
  simp [entF, h1, h2]
def kdV (f : Nat → Int × Int) (i : Nat) : V := .agg [.int .i64 (f i).1, .int .i64 (f i).2]
theorem eqKs_all (f g : Nat → Int × Int) : ∀ l : List Nat, eqKs (l.map (kdV f)) (l.map (kdV g)) = l.all fun i => alikeK (f i).1 (f i).2 (g i).1 (g i).2
  | [] => rfl
  | i :: r => by
    simp only [List.map_cons, List.all_cons, kdV, eqKs]
    rw [← eqKs_all f g r]
theorem goods_all (f : Nat → Int × Int) : ∀ l : List Nat, goods (l.map (kdV f)) = l.all fun i => goodK (f i).1 (f i).2
  | [] => rfl
  | i :: r => by
    simp only [List.map_cons, List.all_cons, kdV, goods]
    rw [← goods_all f r]
theorem same_all (f g : Nat → Int × Int) : sameB f g = (List.range 16).all fun i => alikeK (f i).1 (f i).2 (g i).1 (g i).2 := eqKs_all f g _
theorem same_refl (f : Nat → Int × Int) : sameB f f = true := by
  rw [same_all, List.all_eq_true]
  intro i _
  exact al_refl _ _
theorem same_ent {m q : Int} (h0 : 0 ≤ m) (hm : m ≤ q) (hq : q ≤ 16) : sameB (entF m) (entF q) = decide (q ≤ m) := by
  by_cases h : q ≤ m
  · have : m = q := by omega
    subst this
    rw [same_refl]; simp
  · rw [decide_eq_false h, same_all, List.all_eq_false]
    refine ⟨m.toNat, by simp; omega, ?_⟩
    have e : ((m.toNat : Nat) : Int) = m := by omega
    have h1 : m < q := by omega
    have h2 : ¬ (max m 0 : Int) < m := by omega
    simp [entF, e, h1, h2, al_na]
theorem live_all {f : Nat → Int × Int} {n : Int} (h0 : 0 ≤ n) (h1 : n ≤ 16) : liveB f n = (List.range n.toNat).all fun i => goodK (f i).1 (f i).2 := by
  have e1 : decide (n < 0) = false := by simp; omega
  have e2 : decide (n > 16) = false := by simp; omega
  simp only [liveB, e1, e2, if_false, Bool.false_eq_true, ↓reduceIte]
  rw [← goods_all]
  congr 1
  show ((List.range 16).map (kdV f)).take n.toNat = _
  rw [← List.map_take, List.take_range]
  congr 2
  omega
theorem live_ent {p : Int} (h0 : 0 ≤ p) (h1 : p ≤ 16) : liveB (entF p) p = true := by
  rw [live_all h0 h1, List.all_eq_true]
  intro i hi
  have hi : (i : Int) < p := by
    have : i < p.toNat := by simpa using hi
    omega
  simp [entF, hi, g_a]
theorem live_not {p : Int} (h0 : 0 ≤ p) (h1 : p < 16) : liveB (entF p) (p + 1) = false := by
  rw [live_all (by omega) (by omega), List.all_eq_false]
  refine ⟨p.toNat, by simp; omega, ?_⟩
  have e : ((p.toNat : Nat) : Int) = p := by omega
  have h2 : ¬ (max p 0 : Int) < p := by omega
  simp [entF, e, h2, g_n]
theorem place_rng {x n : Int} (h0 : 0 < n) (h1 : n ≤ 1000) : 0 ≤ place x n ∧ place x n < n := by
  have h2 : x.tmod n < n := Int.tmod_lt_of_pos x h0
  have h3 : -n < x.tmod n := Int.lt_tmod_of_pos x h0
  unfold place
  by_cases h : x.tmod n < 0
  · rw [if_pos (by simpa using h), IntKind.wrap_i64]
    omega
  · rw [if_neg (by simpa using h)]
    omega
end GoL
