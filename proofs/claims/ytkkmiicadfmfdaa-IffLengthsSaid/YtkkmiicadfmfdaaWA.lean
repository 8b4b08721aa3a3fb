/- A part of the proof: a logic for programs of this kind, proved sound over the model; contracts of functions; plain laws. -/
import Derived.Test.YtkkmiicadfmfdaaWN
import Derived.Test.YtkkmiicadfmfdaaSP
set_option linter.all false
open Go Go.Proofs
namespace GoL
set_option linter.unusedVariables false
set_option linter.unusedSimpArgs false
set_option maxRecDepth 8000
theorem place_in {y n : Int} (h : 0 < n) (hn : n ≤ 9223372036854775807) : 0 ≤ place y n ∧ place y n < n := by
  unfold place
  have h1 := Int.tmod_lt_of_pos y h
  have h2 := Int.lt_tmod_of_pos y h
  by_cases h0 : y.tmod n < 0
  · simp only [h0, decide_true, if_true]
    rw [IntKind.wrap_i64]
    omega
  · simp only [h0, decide_false, if_false, Bool.false_eq_true]
    omega
/-- a file whose length says something else -/
theorem hd_bad {n : Int} {R : List V} (h0 : 0 ≤ n) (h1 : n < 4294967296) (hl : R.length ≤ 65524) (hn : n ≠ (R.length : Int) + 4) : parseS (mkHd n ++ R) = ([], 5) := by
  have hlen : (mkHd n ++ R).length = 12 + R.length := by rw [List.length_append, mkHd_len]
  have hd4 : (mkHd n ++ R).drop 4 = fourV n ++ ([.int .u8 66, .int .u8 69, .int .u8 65, .int .u8 77] ++ R) := rfl
  unfold parseS
  rw [if_neg (by omega), if_neg (by omega), if_pos]
  unfold hdOk
  split
  · rfl
  · split
    · rfl
    · rw [hd4, num_four h0 h1, hlen]
      simp
      omega
theorem first_bad {vs : List V} (h1 : vs.length ≤ 65536) (h2 : 12 ≤ vs.length) (h : (vs.take 4).map byteV ≠ [70, 79, 82, 49]) : parseS vs = ([], 5) := by
  unfold parseS
  rw [if_neg (by omega), if_neg (by omega), if_pos]
  unfold hdOk
  rw [if_pos (by simpa using h)]
theorem short_bad {vs : List V} (h : vs.length < 12) : parseS vs = ([], 3) := by
  unfold parseS
  rw [if_neg (by omega), if_pos (by omega)]
theorem mkErr_app : ∀ (a pre : List V) (u : V), mkErrR pre a = 0 → mkErrR pre (a ++ [u]) = if namedS (nmV u) = false then 1 else if hasS (pre ++ a) (nmV u) = true then 6 else 0
  | [], pre, u, _ => by simp only [List.nil_append, mkErrR, List.append_nil]
  | v :: r, pre, u, h => by
    simp only [List.cons_append, mkErrR] at h ⊢
    split at h
    · cases h
    · rename_i h1
      rw [if_neg h1]
      split at h
      · cases h
      · rename_i h2
        rw [if_neg h2, mkErr_app r _ u h]
        simp
theorem hasS_mem {ls : List V} {u : V} (h : u ∈ ls) : hasS ls (nmV u) = true := by
  unfold hasS
  rw [List.any_eq_true]
  exact ⟨u, h, by simp⟩
theorem hasS_app (a : List V) (u : V) (s : List UInt8) : hasS (a ++ [u]) s = (hasS a s || (nmV u == s)) := by
  unfold hasS
  rw [List.any_append]
  simp
theorem findS_app : ∀ (a : List V) (u : V) (s : List UInt8), findS s (a ++ [u]) = if hasS a s = true then findS s a else if (nmV u == s) = true then (dtV u, true) else ([], false)
  | [], u, s => by
    have : hasS [] s = false := rfl
    rw [this]
    rfl
  | v :: r, u, s => by
    have hh : hasS (v :: r) s = ((nmV v == s) || hasS r s) := rfl
    rw [hh]
    simp only [List.cons_append, findS]
    by_cases h : (nmV v == s) = true
    · rw [if_pos h, h]
      simp
    · have h : (nmV v == s) = false := by simpa using h
      rw [h, findS_app r u s]
      simp
theorem cS_len (xs : List V) : ∀ k, (cS xs k).length = k
  | 0 => rfl
  | k + 1 => by simp only [cS, List.length_append, cS_len xs k, List.length_cons, List.length_nil]
theorem cS_cls (xs : List V) : ∀ k, CLs (cS xs k)
  | 0 => cls_nil
  | k + 1 => fun u hu => by
    simp only [cS] at hu
    rcases List.mem_append.1 hu with hu | hu
    · exact cS_cls xs k u hu
    · simp at hu; subst hu; exact ⟨_, _, rfl⟩
theorem cS_mem {xs : List V} : ∀ {k : Nat} {u : V}, u ∈ cS xs k → ∃ j : Nat, j < k ∧ u = chV (nmD (j : Nat)) (strV (getV xs (j : Nat)))
  | 0, u, hu => by cases hu
  | k + 1, u, hu => by
    simp only [cS] at hu
    rcases List.mem_append.1 hu with hu | hu
    · obtain ⟨j, h1, h2⟩ := cS_mem hu
      exact ⟨j, by omega, h2⟩
    · simp at hu; exact ⟨k, by omega, hu⟩
theorem cS_has (xs : List V) (s : List UInt8) : ∀ k, hasS (cS xs k) s = (List.range k).any fun j => nmD ((j : Nat) : Int) == s
  | 0 => rfl
  | k + 1 => by
    simp only [cS]
    rw [hasS_app, cS_has xs s k, List.range_succ, List.any_append]
    simp [nmV_ch]
theorem nmD_new : ∀ k : Fin 10, ((List.range k.val).any fun j => nmD ((j : Nat) : Int) == nmD ((k.val : Nat) : Int)) = false := by decide +kernel
theorem nmD_ok : ∀ k : Fin 10, namedS (nmD ((k.val : Nat) : Int)) = true := by decide +kernel
theorem nmD_none : ∀ k : Fin 11, ((List.range k.val).any fun j => nmD ((j : Nat) : Int) == [110, 111, 110, 101]) = false := by decide +kernel
theorem cS_err (xs : List V) : ∀ k, k ≤ 10 → mkErrR [] (cS xs k) = 0
  | 0, _ => rfl
  | k + 1, h => by
    have h1 := nmD_ok ⟨k, by omega⟩
    have h2 := nmD_new ⟨k, by omega⟩
    simp only at h1 h2
    simp only [cS]
    rw [mkErr_app _ _ _ (cS_err xs k (by omega)), nmV_ch, if_neg (by rw [h1]; simp), List.nil_append, cS_has, if_neg (by rw [h2]; simp)]
theorem cS_sum {xs : List V} {m : Nat} : ∀ k, (∀ j : Nat, j < k → (strV (getV xs (j : Nat))).length ≤ m) → 0 ≤ sumC (cS xs k) ∧ sumC (cS xs k) ≤ k * ((m : Int) + 11)
  | 0, _ => by simp [cS, sumC]
  | k + 1, h => by
    have h1 := cS_sum k fun j hj => h j (by omega)
    have h2 := h k (by omega)
    have hf := fill_rng ((strV (getV xs (k : Nat))).length : Int)
    have e : sumC (cS xs (k + 1)) = sumC (cS xs k) + szC (chV (nmD (k : Nat)) (strV (getV xs (k : Nat)))) := by
      simp only [cS]
      rw [sumC_app]
      simp [sumC]
    have e2 : szC (chV (nmD (k : Nat)) (strV (getV xs (k : Nat)))) = 8 + ((strV (getV xs (k : Nat))).length : Int) + fillI ((strV (getV xs (k : Nat))).length : Int) := by
      unfold szC; rw [dtV_ch]
    have e3 : ((k + 1 : Nat) : Int) * ((m : Int) + 11) = k * ((m : Int) + 11) + ((m : Int) + 11) := by
      rw [show ((k + 1 : Nat) : Int) = (k : Int) + 1 by omega, Int.add_mul, Int.one_mul]
    rw [e, e2, e3]
    omega
theorem cS_fit {xs : List V} {k m : Nat} (hk : k ≤ 10) (hm : m ≤ 2000) (h : ∀ j : Nat, j < k → (strV (getV xs (j : Nat))).length ≤ m) : FitC (cS xs k) ∧ mkE (cS xs k) = 0 := by
  have hs := cS_sum (xs := xs) (m := m) k h
  have hb : (k : Int) * ((m : Int) + 11) ≤ 10 * 2011 := by
    have : (k : Int) * ((m : Int) + 11) ≤ 10 * ((m : Int) + 11) := Int.mul_le_mul_of_nonneg_right (by omega) (by omega)
    omega
  refine ⟨⟨cS_cls xs k, by rw [cS_len]; omega, fun u hu => ?_⟩, ?_⟩
  · obtain ⟨j, h1, rfl⟩ := cS_mem hu
    rw [dtV_ch]
    have := h j h1
    omega
  · unfold mkE
    rw [if_pos (cS_err xs k hk), if_neg (by omega)]
theorem cS_get (xs : List V) : ∀ (k j : Nat), j < k → (cS xs k)[j]? = some (chV (nmD (j : Nat)) (strV (getV xs (j : Nat))))
  | 0, j, h => by omega
  | k + 1, j, h => by
    simp only [cS]
    by_cases e : j = k
    · subst e
      rw [List.getElem?_append_right (by rw [cS_len]; omega), cS_len]
      simp
    · rw [List.getElem?_append_left (by rw [cS_len]; omega)]
      exact cS_get xs k j (by omega)
theorem cS_find (xs : List V) : ∀ (k j : Nat), j < k → k ≤ 10 → findS (nmD (j : Nat)) (cS xs k) = (strV (getV xs (j : Nat)), true)
  | 0, j, h, _ => by omega
  | k + 1, j, h, hk => by
    simp only [cS]
    rw [findS_app]
    by_cases e : j = k
    · subst e
      have h2 := nmD_new ⟨j, by omega⟩
      simp only at h2
      rw [cS_has, h2, nmV_ch, dtV_ch]
      simp
    · have ih := cS_find xs k j (by omega) (by omega)
      have hh : hasS (cS xs k) (nmD (j : Nat)) = true := by rw [← find_snd, ih]
      rw [if_pos hh, ih]
theorem cS_none (xs : List V) {k : Nat} (hk : k ≤ 10) : hasS (cS xs k) [110, 111, 110, 101] = false := by
  rw [cS_has]
  exact nmD_none ⟨k, by omega⟩
theorem StL.at {xs : List V} (h : StL xs) {i : Int} (h0 : 0 ≤ i) (h1 : i < xs.length) : ∃ s, getV xs i = .str s ∧ strV (getV xs i) = s := by
  have e : ((i.toNat : Nat) : Int) = i := by omega
  have hg := getVn (ls := xs) (i := i.toNat) (by omega)
  rw [e] at hg
  obtain ⟨s, h⟩ := h _ (List.getElem_mem (l := xs) (n := i.toNat) (by omega))
  exact ⟨s, by rw [hg, h], by rw [hg, h]; rfl⟩
end GoL
