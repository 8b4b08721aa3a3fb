/- A part of the proof: a logic for programs of this kind, proved sound over the model; contracts of functions; plain laws. -/
import Derived.Test.YtkkmiicadfmfdaaJD
import Derived.Test.YtkkmiicadfmfdaaIP
set_option linter.all false
open Go Go.Proofs
namespace GoL
set_option linter.unusedVariables false
set_option linter.unusedSimpArgs false
set_option maxRecDepth 8000
theorem dropc {α : Type} {l : List α} {i : Nat} (h : i < l.length) : l.drop i = l[i] :: l.drop (i + 1) := List.drop_eq_getElem_cons h
theorem getS {s : List UInt8} {i : Nat} (h : i < s.length) : s.getD i 0 = s[i] := by rw [List.getD_eq_getElem?_getD, List.getElem?_eq_getElem h]; rfl
theorem getVn {ls : List V} {i : Nat} (h : i < ls.length) : getV ls (i : Int) = ls[i] := by
  unfold getV
  rw [List.getD_eq_getElem?_getD, Int.toNat_natCast, List.getElem?_eq_getElem h]
  rfl
theorem idx_spec (s : List UInt8) : ∀ (ls : List V) (i : Int), 0 ≤ i → (idxI s ls i = -1 ∧ findS s ls = ([], false) ∧ hasS ls s = false) ∨ (∃ k : Nat, ∃ h : k < ls.length, idxI s ls i = i + k ∧ findS s ls = (dtV ls[k], true) ∧ hasS ls s = true)
  | [], i, _ => .inl ⟨rfl, rfl, rfl⟩
  | u :: r, i, hi => by
    by_cases hu : (nmV u == s) = true
    · refine .inr ⟨0, by simp, ?_, ?_, ?_⟩
      · simp only [idxI, hu, if_true]; omega
      · simp only [findS, hu, if_true, List.getElem_cons_zero]
      · simp only [hasS, List.any_cons, hu, Bool.true_or]
    · have hu : (nmV u == s) = false := by simpa using hu
      rcases idx_spec s r (i + 1) (by omega) with ⟨a, b, c⟩ | ⟨k, h, a, b, c⟩
      · refine .inl ⟨?_, ?_, ?_⟩
        · simp only [idxI, hu, Bool.false_eq_true, if_false, a]
        · simp only [findS, hu, Bool.false_eq_true, if_false, b]
        · simp only [hasS, List.any_cons, hu, Bool.false_or]; exact c
      · refine .inr ⟨k + 1, by simp only [List.length_cons]; omega, ?_, ?_, ?_⟩
        · simp only [idxI, hu, Bool.false_eq_true, if_false, a]; omega
        · simp only [findS, hu, Bool.false_eq_true, if_false, b, List.getElem_cons_succ]
        · simp only [hasS, List.any_cons, hu, Bool.false_or]; exact c
theorem find_snd (s : List UInt8) (ls : List V) : (findS s ls).2 = hasS ls s := by
  rcases idx_spec s ls 0 (by omega) with ⟨_, b, c⟩ | ⟨k, h, _, b, c⟩ <;> rw [b, c]
theorem CLs.at {ls : List V} (h : CLs ls) {i : Int} (h0 : 0 ≤ i) (h1 : i < ls.length) : ∃ n d, getV ls i = .agg [.str n, .str d] ∧ nmV (getV ls i) = n ∧ dtV (getV ls i) = d := by
  have e : ((i.toNat : Nat) : Int) = i := by omega
  have hg := getVn (ls := ls) (i := i.toNat) (by omega)
  rw [e] at hg
  obtain ⟨n, d, h⟩ := h _ (List.getElem_mem (l := ls) (n := i.toNat) (by omega))
  exact ⟨n, d, by rw [hg, h], by rw [hg, h]; rfl, by rw [hg, h]; rfl⟩
end GoL
