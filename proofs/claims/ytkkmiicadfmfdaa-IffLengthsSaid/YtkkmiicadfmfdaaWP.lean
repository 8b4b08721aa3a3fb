/- A part of the proof: a logic for programs of this kind, proved sound over the model; contracts of functions; plain laws. -/
import Derived.Test.YtkkmiicadfmfdaaWA
set_option linter.all false
open Go Go.Proofs
namespace GoL
set_option linter.unusedVariables false
set_option linter.unusedSimpArgs false
set_option maxRecDepth 8000
theorem sp4_ok : SpOk Try.prog sp4 := shAdd_ok h10_ok (spAdd_ok b11_ok (spAdd_ok b8_ok (spAdd_ok b9_ok (spAdd_ok b14_ok spNil_ok))))
theorem sp5_ok : SpOk Try.prog sp5 := shAdd_ok h10_ok (spAdd_ok b11_ok (spAdd_ok b9_ok spNil_ok))
theorem sp7_ok : SpOk Try.prog sp7 := shAdd_ok h10_ok (spAdd_ok b9_ok (spAdd_ok b14_ok (spAdd_ok b17_ok spNil_ok)))
theorem endP {ys : List V} {W : Int} (h : parseS ys = ([], W)) : ∀ (l44 : List V) (e45 : Int), parseS ys = (l44, e45) → ∀ (x47 : Bool), x47 = (e45 == W) → (x47 = true → List.length l44 ≤ 9223372036854775807 → ∀ (x51 : Int), x51 = ↑(List.length l44) → ∀ (x53 : Bool), x53 = (x51 == 0) → (x53 = true → V.bool true = V.bool true) ∧ (x53 = false → V.bool true = V.bool false)) ∧ (x47 = false → V.bool true = V.bool false) := by
  intro l e hp x hx
  rw [h] at hp
  cases hp
  have hx : x = true := by rw [hx]; simp
  subst hx
  refine ⟨fun _ _ x51 h51 x53 h53 => ?_, fun h => by cases h⟩
  subst h51
  subst h53
  exact ⟨fun _ => rfl, fun h => by cases h⟩
theorem zer_bl : BLs [.int .u8 0, .int .u8 0, .int .u8 0, .int .u8 0] := fun v hv => by
  simp only [List.mem_cons, List.not_mem_nil, or_false] at hv
  rcases hv with rfl | rfl | rfl | rfl <;> exact isByte_int (by omega) (by omega)
theorem flip_bad {n : Int} {R : List V} (hR : BLs R) (hl : R.length ≤ 65524) {j : Int} (h0 : 0 ≤ j) (h4 : j < 4) : ∃ b : Int, subQ (V.agg (mkHd n ++ R)) [j.toNat] = some (.int .u8 b) ∧ offQ (V.agg (mkHd n ++ R)) [j.toNat] = j.toNat * 1 ∧
    (∃ rows' : List V, V.agg rows' = updQ (.int .u8 (bits .xor .u8 b 1)) (V.agg (mkHd n ++ R)) [j.toNat] ∧ rows'.length = (mkHd n ++ R).length ∧ BLs rows' ∧ parseS rows' = ([], 5)) := by
  have hb := BLs_app (hd_bl n) hR
  have hb4 : BLs (fourV n ++ ([.int .u8 66, .int .u8 69, .int .u8 65, .int .u8 77] ++ R)) := BLs_app (BLs_four n) (BLs_app b4_bl hR)
  have one : ∀ (x : Int), 0 ≤ x → x < 256 → isByte (.int .u8 x) := fun x a b => isByte_int a b
  have tail : ∀ (a b c d : Int), (0 ≤ a ∧ a < 256) → (0 ≤ b ∧ b < 256) → (0 ≤ c ∧ c < 256) → (0 ≤ d ∧ d < 256) → BLs ([.int .u8 a, .int .u8 b, .int .u8 c, .int .u8 d] ++ (fourV n ++ ([.int .u8 66, .int .u8 69, .int .u8 65, .int .u8 77] ++ R))) := fun a b c d ha hb' hc hd => by
    refine BLs_app (fun v hv => ?_) hb4
    simp only [List.mem_cons, List.not_mem_nil, or_false] at hv
    rcases hv with rfl | rfl | rfl | rfl
    · exact one _ ha.1 ha.2
    · exact one _ hb'.1 hb'.2
    · exact one _ hc.1 hc.2
    · exact one _ hd.1 hd.2
  have len : ∀ (a b c d : V), ([a, b, c, d] ++ (fourV n ++ ([V.int .u8 66, .int .u8 69, .int .u8 65, .int .u8 77] ++ R))).length = 12 + R.length := fun a b c d => by
    simp only [List.length_append, List.length_cons, List.length_nil, fourV]; omega
  have hc : j = 0 ∨ j = 1 ∨ j = 2 ∨ j = 3 := by omega
  rcases hc with rfl | rfl | rfl | rfl
  · refine ⟨70, rfl, rfl, [.int .u8 71, .int .u8 79, .int .u8 82, .int .u8 49] ++ (fourV n ++ ([.int .u8 66, .int .u8 69, .int .u8 65, .int .u8 77] ++ R)), ?_, ?_, tail _ _ _ _ (by omega) (by omega) (by omega) (by omega), first_bad (by rw [len]; omega) (by rw [len]; omega) ?_⟩
    · have e : bits .xor .u8 70 1 = 71 := by decide
      rw [e]; rfl
    · rw [len, List.length_append, mkHd_len]
    · show ([.int .u8 71, .int .u8 79, .int .u8 82, .int .u8 49] : List V).map byteV ≠ _
      decide
  · refine ⟨79, rfl, rfl, [.int .u8 70, .int .u8 78, .int .u8 82, .int .u8 49] ++ (fourV n ++ ([.int .u8 66, .int .u8 69, .int .u8 65, .int .u8 77] ++ R)), ?_, ?_, tail _ _ _ _ (by omega) (by omega) (by omega) (by omega), first_bad (by rw [len]; omega) (by rw [len]; omega) ?_⟩
    · have e : bits .xor .u8 79 1 = 78 := by decide
      rw [e]; rfl
    · rw [len, List.length_append, mkHd_len]
    · show ([.int .u8 70, .int .u8 78, .int .u8 82, .int .u8 49] : List V).map byteV ≠ _
      decide
  · refine ⟨82, rfl, rfl, [.int .u8 70, .int .u8 79, .int .u8 83, .int .u8 49] ++ (fourV n ++ ([.int .u8 66, .int .u8 69, .int .u8 65, .int .u8 77] ++ R)), ?_, ?_, tail _ _ _ _ (by omega) (by omega) (by omega) (by omega), first_bad (by rw [len]; omega) (by rw [len]; omega) ?_⟩
    · have e : bits .xor .u8 82 1 = 83 := by decide
      rw [e]; rfl
    · rw [len, List.length_append, mkHd_len]
    · show ([.int .u8 70, .int .u8 79, .int .u8 83, .int .u8 49] : List V).map byteV ≠ _
      decide
  · refine ⟨49, rfl, rfl, [.int .u8 70, .int .u8 79, .int .u8 82, .int .u8 48] ++ (fourV n ++ ([.int .u8 66, .int .u8 69, .int .u8 65, .int .u8 77] ++ R)), ?_, ?_, tail _ _ _ _ (by omega) (by omega) (by omega) (by omega), first_bad (by rw [len]; omega) (by rw [len]; omega) ?_⟩
    · have e : bits .xor .u8 49 1 = 48 := by decide
      rw [e]; rfl
    · rw [len, List.length_append, mkHd_len]
    · show ([.int .u8 70, .int .u8 79, .int .u8 82, .int .u8 48] : List V).map byteV ≠ _
      decide
theorem few_sum {ls : List V} (h : fewP ls) : 0 ≤ sumC ls ∧ sumC ls ≤ 36132 := by
  have key : ∀ (l : List V), (∀ u ∈ l, okC u) → 0 ≤ sumC l ∧ sumC l ≤ l.length * 3011 := by
    intro l
    induction l with
    | nil => intro _; simp [sumC]
    | cons u r ih =>
      intro hh
      have h1 := ih fun v hv => hh v (by simp [hv])
      have h2 := (hh u (by simp)).1
      have hf := fill_rng ((dtV u).length : Int)
      simp only [sumC, szC, List.length_cons]
      omega
  have := key ls h.2
  have := h.1
  omega
theorem c4 (ls : List V) (x y : Int) (hc : CLs ls) : CallP Try.prog 4 [.list false ls, .int .i64 x, .int .i64 y] (.bool true) := by
  refine call_plain sp4_ok Try.func4 Try.ntmps4 (by kernel_rfl) ((n4 ls x y _).mpr ?_)
  refine ⟨hc, fun x0 h0 => ⟨fun _ => rfl, fun h => ?_⟩⟩
  have hfew : fewP ls := by rw [h0] at h; exact decJ_iff.1 (by simpa using h)
  have hf := fit_few hc hfew
  have hsum := few_sum hfew
  refine ⟨hf, fun hm rows hr x7 h7 => ?_, fun e he hne x156 h156 => ?_⟩
  · have hr : rows = mkHd (4 + sumC ls) ++ mkRows ls := hr
    obtain ⟨hm0, hm1⟩ := mkE_zero hm
    have hRl : ((mkRows ls).length : Int) = sumC ls := mkRows_len ls fun u hu => named_len (mkErr_named _ _ hm0 u hu)
    have hRb := mkRows_bl ls
    generalize mkRows ls = R at hr hRl hRb
    have hlen : (rows.length : Int) = 12 + sumC ls := by rw [hr, List.length_append, mkHd_len]; omega
    have hb : BLs rows := by rw [hr]; exact BLs_app (hd_bl _) hRb
    have hsz := sz_byte hb
    subst h7
    refine ⟨fun h => (by cases h), fun _ => ⟨rfl, fun _ x16 h16 x18 h18 => ?_⟩⟩
    subst h16
    refine ⟨fun h => ?_, fun _ => ⟨by decide, fun x26 h26 => ⟨fun _ => ⟨rfl, fun _ x30 h30 => ?_⟩, fun _ x74 h74 => ⟨fun _ => ?_, fun _ x96 h96 => ⟨fun _ => ?_, fun _ _ x120 h120 x122 h122 => ⟨fun _ => rfl, fun h123 => ?_⟩⟩⟩⟩⟩⟩
    · rw [h18] at h
      have := of_decide_eq_true h
      omega
    · subst h30
      obtain ⟨p0, p1⟩ := place_in (y := y) (n := (rows.length : Int)) (by omega) (by omega)
      generalize place y (rows.length : Int) = k at p0 p1
      refine ⟨by omega, ⟨rfl, rfl, trivial, trivial, trivial, fun h => absurd rfl h, by decide, by show (0 : Int) ≤ _; omega, by omega, rfl, hsz⟩, fun _ x36 h36 _ x39 h39 x41 h41 => ?_⟩
      have e36 : x36 = rows.take k.toNat := by rw [h36]; congr 1; show (k - 0).toNat = _; omega
      subst e36
      have hl36 : ((rows.take k.toNat).length : Int) = k := by rw [List.length_take]; omega
      subst h39
      refine ⟨fun h => ⟨BLs_take hb _, endP (short_bad ?_)⟩, fun h => ⟨BLs_take hb _, endP ?_⟩⟩
      · rw [h41] at h
        have := of_decide_eq_true h
        omega
      · rw [h41] at h
        have hk := of_decide_eq_false h
        have e : rows.take k.toNat = mkHd (4 + sumC ls) ++ R.take (k.toNat - 12) := by
          rw [hr, List.take_append, mkHd_len, List.take_of_length_le (by rw [mkHd_len]; omega)]
        rw [e]
        refine hd_bad (by omega) (by omega) ?_ ?_
        · rw [List.length_take]; omega
        · rw [List.length_take]; omega
    · refine ⟨⟨rfl, rfl, ⟨rfl, rfl⟩, sz_byte zer_bl, rfl, rfl, 1, rfl, by show (rows.length + 4) * 1 ≤ _; omega, by show rows.length + 4 ≤ _; omega⟩, fun _ => ⟨by rw [List.length_append], BLs_app hb zer_bl, endP ?_⟩⟩
      have e : rows ++ [.int .u8 0, .int .u8 0, .int .u8 0, .int .u8 0] = mkHd (4 + sumC ls) ++ (R ++ [.int .u8 0, .int .u8 0, .int .u8 0, .int .u8 0]) := by rw [hr, List.append_assoc]
      rw [e]
      refine hd_bad (by omega) (by omega) ?_ ?_
      · rw [List.length_append]; show R.length + 4 ≤ _; omega
      · rw [List.length_append]; show _ ≠ ((R.length + 4 : Nat) : Int) + 4; omega
    · obtain ⟨p0, p1⟩ := place_in (y := y) (n := 4) (by omega) (by omega)
      generalize place y 4 = k at p0 p1
      obtain ⟨b, g1, g2, rows', g3, g4, g5, g6⟩ := flip_bad (n := 4 + sumC ls) hRb (by omega) p0 p1
      rw [← hr] at g1 g2 g3 g4
      refine ⟨by decide, rfl, p0, by omega, rfl, b, g1, rfl, g2, fun x100 h100 => ?_⟩
      subst h100
      exact ⟨rfl, p0, by omega, rfl, rfl, by simp, g2, ⟨_, g1, rfl, rfl⟩, rows', g3, g4.symm, g5, endP g6⟩
    · subst h120
      have hne : ls.length ≠ 0 := by
        intro h0
        rw [h122, h0] at h123
        simp at h123
      obtain ⟨p0, p1⟩ := place_in (y := y) (n := (ls.length : Int)) (by omega) (by omega)
      obtain ⟨nm, d, g1, g2, g3⟩ := hc.at p0 p1
      have hmem : getV ls (place y (ls.length : Int)) ∈ ls := by
        have hi := getVn (ls := ls) (i := (place y (ls.length : Int)).toNat) (by omega)
        rw [show (((place y (ls.length : Int)).toNat : Nat) : Int) = place y (ls.length : Int) by omega] at hi
        rw [hi]
        exact List.getElem_mem _
      have hl12 := hfew.1
      refine ⟨⟨⟨rfl, trivial⟩, fun v hv => ?_, rfl, rfl, 32, rfl, by omega, by omega⟩, fun _ _ x131 h131 => ?_⟩
      · obtain ⟨a, b, rfl⟩ := hc v hv; rfl
      subst h131
      have hcu : CLs (ls ++ [.agg [.str nm, .str d]]) := fun u hu => by
        rcases List.mem_append.1 hu with hu | hu
        · exact hc u hu
        · simp at hu; subst hu; exact ⟨_, _, rfl⟩
      have hdu : d.length ≤ 3000 := by
        have := (hfew.2 _ hmem).1
        rw [g3] at this
        omega
      have hfu : FitC (ls ++ [.agg [.str nm, .str d]]) := ⟨hcu, by rw [List.length_append]; show ls.length + 1 ≤ _; omega, fun u hu => by
        rcases List.mem_append.1 hu with hu | hu
        · exact hf.2.2 u hu
        · simp at hu; subst hu; show d.length ≤ _; omega⟩
      have hE : mkE (ls ++ [.agg [.str nm, .str d]]) = 6 := by
        have hnm : nmV (.agg [.str nm, .str d]) = nm := rfl
        have h1 : namedS nm = true := by rw [← g2]; exact mkErr_named _ _ hm0 _ hmem
        have h2 : hasS ls nm = true := by rw [← g2]; exact hasS_mem hmem
        have := mkErr_app ls [] (.agg [.str nm, .str d]) hm0
        rw [hnm, if_neg (by rw [h1]; simp), List.nil_append, if_pos h2] at this
        unfold mkE
        rw [this]
        rfl
      refine ⟨by omega, p0, p1, nm, d, g1, ⟨rfl, rfl, ⟨rfl, trivial⟩, fun v hv => ?_, rfl, rfl, 32, rfl, by show (ls.length + 1) * 32 ≤ _; omega, by show ls.length + 1 ≤ _; omega⟩, fun _ => ⟨by rw [List.length_append], hfu, fun h => ?_, fun e he hne2 x149 h149 => ?_⟩⟩
      · rcases List.mem_cons.1 hv with rfl | hv
        · rfl
        · cases hv
      · rw [hE] at h; cases h
      · rw [hE] at he
        subst he
        subst h149
        exact ⟨fun _ => rfl, fun h => by cases h⟩
  · have h1 : x156 = true := by rw [h156]; simpa using hne
    subst h1
    refine ⟨fun _ x159 h159 => ?_, fun h => by cases h⟩
    have h1 : x159 = true := by rw [h159]; simpa using hne
    subst h1
    exact ⟨fun _ => rfl, fun h => by cases h⟩
end GoL
