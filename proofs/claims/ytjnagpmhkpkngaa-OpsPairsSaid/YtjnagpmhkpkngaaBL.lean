/- A part of the proof: a logic for programs of this kind, proved sound over the model; contracts of functions; plain laws. -/
import Derived.Test.YtjnagpmhkpkngaaBP
set_option linter.all false
open Go Go.Proofs
namespace GoL
set_option linter.unusedVariables false
set_option linter.unusedSimpArgs false
theorem all_one {p : Int → Prop} {n : Int} : AllS p n 1 0 ↔ ∀ i, 0 ≤ i → i < n → p i := by
  constructor
  · intro H i h0 h1
    have e : (0 : Int) + (i.toNat : Nat) * 1 = i := by omega
    have := H i.toNat (by rw [e]; exact h1)
    rw [e] at this
    exact this
  · intro H m hm
    exact H _ (by omega) hm
theorem all_two {p : Int → Prop} {n : Int} : AllS p n 2 0 ↔ ∀ i, 0 ≤ i → i < n → i % 2 = 0 → p i := by
  constructor
  · intro H i h0 h1 h2
    have e : (0 : Int) + ((i / 2).toNat : Nat) * 2 = i := by omega
    have := H (i / 2).toNat (by rw [e]; exact h1)
    rw [e] at this
    exact this
  · intro H m hm
    exact H _ (by omega) hm (by omega)
theorem plain_chk {t n : Int} {ls : List V} (h : t ≠ 7) : plainB t n ls = chk0 t n ls := by
  unfold plainB chk0
  have hL0 : (0 : Int) ≤ (ls.length : Int) := by omega
  generalize (ls.length : Int) = L at *
  have hl : (L == 0) = !decide (L > 0) := by
    by_cases h : L = 0
    · subst h; rfl
    · have h9 : L > 0 := by omega
      rw [decide_eq_true h9]
      simpa using h
  rw [hl]
  by_cases h1 : t = 1
  · subst h1
    by_cases h2 : L > 0 <;> simp [h2]
  · by_cases h0 : t < 0
    · have : ¬ t ≥ 0 := by omega
      simp [h1, h0, this]
    · have h0' : t ≥ 0 := by omega
      by_cases h8 : t > 7
      · have : ¬ t < 7 := by omega
        simp [h1, h0, h0', h8, this]
      · have : t < 7 := by omega
        have e : decide (n ≤ 268435455) = decide (n < 268435456) := by rw [decide_eq_decide]; omega
        by_cases h2 : L > 0 <;> simp [h1, h0, h0', h8, this, h2, e]
theorem plain7 {n : Int} {ls : List V} : plainB 7 n ls = false := by simp [plainB]
theorem plain_sub {ls : List V} {i : Int} : plainV (getV ls i) = true ↔ subOk ls i := by
  unfold plainV subOk
  by_cases h : tagV (getV ls i) = 7
  · rw [h, plain7]; simp
  · rw [plain_chk h]; simp [h]
theorem chk0_nn {n : Int} {ls : List V} (h : chk0 5 n ls = true) : n ≥ 0 := by
  unfold chk0 at h
  generalize (ls.length : Int) = L at *
  by_cases h2 : L > 0
  · simp [h2] at h
  · by_cases h3 : n ≥ 0
    · exact h3
    · simp [h2, h3] at h
theorem in_eq {ls : List V} : inO ls ↔ AllS (subOk ls) ls.length 1 0 ∧ inK ls := by
  unfold inO inK
  rw [all_one, all_one, all_two]
  have tm : ∀ i : Int, 0 ≤ i → i.tmod 2 = i % 2 := fun i h => Int.tmod_eq_emod_of_nonneg h
  rw [tm _ (by omega)]
  constructor
  · rintro ⟨hev, H⟩
    refine ⟨fun i h0 h1 => plain_sub.1 (H i h0 h1).1, hev, fun i h0 h1 h2 => ?_⟩
    obtain ⟨_, _, a⟩ := H i h0 h1
    obtain ⟨_, b, _⟩ := H (i + 1) (by omega) (by omega)
    have a := a (by rw [tm i h0]; omega)
    have b := b (by rw [tm _ (by omega)]; omega)
    exact ⟨a.1, b.1, by omega, a.2⟩
  · rintro ⟨Hs, hev, H⟩
    refine ⟨hev, fun i h0 h1 => ⟨plain_sub.2 (Hs i h0 h1), fun h => ?_, fun h => ?_⟩⟩
    · rw [tm i h0] at h
      obtain ⟨_, b, c, _⟩ := H (i - 1) (by omega) (by omega) (by omega)
      have e : i - 1 + 1 = i := by omega
      rw [e] at b c
      refine ⟨b, ?_⟩
      have hs := (Hs i h0 h1).2
      rw [b] at hs
      have := chk0_nn hs
      omega
    · rw [tm i h0] at h
      obtain ⟨a, _, _, d⟩ := H i h0 h1 (by omega)
      exact ⟨a, d⟩
theorem list_eq {ls : List V} : AllS (listP ls) ls.length 1 0 ↔ AllS (subOk ls) ls.length 1 0 ∧ AllS (srcP ls) ls.length 1 0 := by
  rw [all_one, all_one, all_one]
  constructor
  · intro H
    exact ⟨fun i h0 h1 => plain_sub.1 (by have := (H i h0 h1).1; simpa using this), fun i h0 h1 => (H i h0 h1).2⟩
  · rintro ⟨H1, H2⟩ i h0 h1
    exact ⟨by have := plain_sub.2 (H1 i h0 h1); simpa using this, H2 i h0 h1⟩
theorem big_eq {c t n : Int} {ls : List V} (hc : c = 83 ∨ c = 80) : bigO c t n ls = true ↔ ck32 t n ls = true ∧ letB c t n ls = true := by
  unfold bigO ck32
  by_cases h7 : t = 7
  · subst h7
    have e40 : decide ((ls.length : Int) > 40) = !decide ((ls.length : Int) ≤ 40) := by
      by_cases h : (ls.length : Int) ≤ 40
      · rw [decide_eq_true h, decide_eq_false (by omega)]; rfl
      · rw [decide_eq_false h, decide_eq_true (by omega)]; rfl
    rw [e40]
    generalize decide ((ls.length : Int) ≤ 40) = b40
    rcases hc with rfl | rfl
    · have e1 : dec (AllS (listP ls) ls.length 1 0) = (dec (AllS (subOk ls) ls.length 1 0) && dec (AllS (srcP ls) ls.length 1 0)) := by
        rw [Bool.eq_iff_iff, Bool.and_eq_true, dec_iff, dec_iff, dec_iff]; exact list_eq
      have e2 : letB 83 7 n ls = dec (AllS (srcP ls) ls.length 1 0) := by
        unfold letB
        cases dec (AllS (srcP ls) ls.length 1 0) <;> rfl
      rw [e1, e2]
      cases dec (AllS (subOk ls) ls.length 1 0) <;> cases dec (AllS (srcP ls) ls.length 1 0) <;> cases b40 <;> by_cases hn : n = 0 <;> simp [hn]
    · have e1 : dec (inO ls) = (dec (AllS (subOk ls) ls.length 1 0) && dec (inK ls)) := by
        rw [Bool.eq_iff_iff, Bool.and_eq_true, dec_iff, dec_iff, dec_iff]; exact in_eq
      have e2 : letB 80 7 n ls = dec (inK ls) := by
        unfold letB
        rfl
      rw [e1, e2]
      cases dec (AllS (subOk ls) ls.length 1 0) <;> cases dec (inK ls) <;> cases b40 <;> by_cases hn : n = 0 <;> simp [hn]
  · have e2 : letB c t n ls = false := by
      have h7' : (t == 7) = false := by simpa using h7
      rcases hc with rfl | rfl
      · unfold letB
        rw [h7']
        cases dec (AllS (srcP ls) ls.length 1 0) <;> rfl
      · unfold letB
        rw [h7']
        rfl
    rw [e2]
    have h7' : (t != 7) = true := by simpa using h7
    rw [h7']
    simp
theorem reg7 {n : Int} : regB 7 n = false := by simp [regB]
theorem src7 {n : Int} : srcB 7 n = false := by simp [srcB, regB]
theorem fit_eq {c t n : Int} {ls : List V} (hc : c = 117 ∨ c = 97 ∨ c = 115 ∨ c = 100 ∨ c = 120 ∨ c = 121 ∨ c = 108 ∨ c = 102) : fit1 c t n ls = true ↔ ck32 t n ls = true ∧ letB c t n ls = true := by
  by_cases h7 : t = 7
  · subst h7
    have e1 : fit1 c 7 n ls = false := by unfold fit1; rw [plain7]; rfl
    have e2 : letB c 7 n ls = false := by
      unfold letB
      rcases hc with rfl | rfl | rfl | rfl | rfl | rfl | rfl | rfl <;> first | rfl | (rw [src7]; rfl) | (rw [reg7]; rfl)
    rw [e1, e2]
    simp
  · have e0 : ck32 t n ls = plainB t n ls := by
      have h7' : (t == 7) = false := by simpa using h7
      unfold ck32
      rw [h7', plain_chk h7]
      rfl
    rw [e0]
    unfold fit1 letB
    cases plainB t n ls
    · simp
    · rcases hc with rfl | rfl | rfl | rfl | rfl | rfl | rfl | rfl <;> simp <;> cases regB t n <;> by_cases h3 : t = 3 <;> by_cases h4 : t = 4 <;> simp [h3, h4]
theorem let_eq {c t n : Int} {ls : List V} (hc : (c = 83 ∨ c = 80) ∨ (c = 117 ∨ c = 97 ∨ c = 115 ∨ c = 100 ∨ c = 120 ∨ c = 121 ∨ c = 108 ∨ c = 102)) : letO c t n ls = true ↔ ck32 t n ls = true ∧ letB c t n ls = true := by
  rcases hc with hc | hc
  · rw [← big_eq hc]
    unfold letO
    rcases hc with rfl | rfl <;> rfl
  · rw [← fit_eq hc]
    unfold letO
    rcases hc with rfl | rfl | rfl | rfl | rfl | rfl | rfl | rfl <;> rfl
theorem letters_f : ∀ n : Fin 57, ((sigS ((n.val : Int) - 2)).all fun c => [83, 80, 117, 97, 115, 100, 120, 121, 108, 102].contains c.toNat) = true := by decide +kernel
theorem letters {op : Int} (h : tabOk op) {c : UInt8} (hc : c ∈ sigS op) : c.toNat ∈ [83, 80, 117, 97, 115, 100, 120, 121, 108, 102] := by
  have := letters_f ⟨(op + 2).toNat, by unfold tabOk at h; omega⟩
  have e : (((op + 2).toNat : Nat) : Int) - 2 = op := by unfold tabOk at h; omega
  simp only [e] at this
  have := List.all_eq_true.1 this c hc
  exact List.contains_iff_mem.1 this
theorem fits_eq (op : Int) (xs : List V) : fitsG op xs = fitsR op xs := by
  unfold fitsG fitsR
  by_cases h1 : op < 1
  · simp [h1]
  by_cases h2 : op > 51
  · simp [h1, h2]
  have ht : tabOk op := ⟨by omega, by omega⟩
  have hs : sigS op = sig9 op := by have := sigT ht; simpa using this
  rw [← hs]
  by_cases hl : xs.length = (sigS op).length
  · have e : dec (AllS (okG (sigS op) xs) xs.length 1 0) = dec (AllS (okR (sigS op) xs) (sigS op).length 1 0) := by
      rw [Bool.eq_iff_iff, dec_iff, dec_iff, all_one, all_one, hl]
      have key : ∀ i : Int, 0 ≤ i → i < ((sigS op).length : Int) → (okG (sigS op) xs i ↔ okR (sigS op) xs i) := by
        intro i h0 h3
        have hb : i.toNat < (sigS op).length := by omega
        have hm : (sigS op).getD i.toNat 0 ∈ sigS op := by
          rw [List.getD_eq_getElem?_getD, List.getElem?_eq_getElem hb]
          exact List.getElem_mem hb
        have hc := letters ht hm
        unfold okG okR
        generalize (sigS op).getD i.toNat 0 = c at hc
        refine let_eq ?_
        simp only [List.mem_cons, List.not_mem_nil, or_false] at hc
        omega
      exact ⟨fun H i h0 h3 => (key i h0 h3).1 (H i h0 h3), fun H i h0 h3 => (key i h0 h3).2 (H i h0 h3)⟩
    rw [e]
  · have : ((xs.length : Int) != ((sigS op).length : Int)) = true := by
      simp only [bne_iff_ne, ne_eq]; omega
    simp [this]
end GoL
