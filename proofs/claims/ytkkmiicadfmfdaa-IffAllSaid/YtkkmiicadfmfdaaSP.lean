/- A part of the proof: a logic for programs of this kind, proved sound over the model; contracts of functions; plain laws. -/
import Derived.Test.YtkkmiicadfmfdaaSN
import Derived.Test.YtkkmiicadfmfdaaQA
set_option linter.all false
open Go Go.Proofs
namespace GoL
set_option linter.unusedVariables false
set_option linter.unusedSimpArgs false
set_option maxRecDepth 8000
theorem sp9_ok : SpOk Try.prog sp9 := shAdd_ok h10_ok (spAdd_ok b11_ok spNil_ok)
theorem fit_few {ls : List V} (hc : CLs ls) (h : fewP ls) : FitC ls := ⟨hc, by have := h.1; omega, fun u hu => by have := (h.2 u hu).1; omega⟩
def tst : List V := [.agg [.str [84, 101, 115, 116], .str [120]]]
theorem cls_nil : CLs [] := fun u hu => by cases hu
theorem cls_tst : CLs tst := fun u hu => by
  simp only [tst, List.mem_cons, List.not_mem_nil, or_false] at hu
  subst hu
  exact ⟨_, _, rfl⟩
theorem fit_nil : FitC [] := ⟨cls_nil, by decide, fun u hu => by cases hu⟩
theorem fit_tst : FitC tst := ⟨cls_tst, by decide, fun u hu => by
  simp only [tst, List.mem_cons, List.not_mem_nil, or_false] at hu
  subst hu
  decide⟩
theorem mk_nil : mkE [] = 0 := by decide +kernel
theorem mk_tst : mkE tst = 0 := by decide +kernel
theorem c9 : CallP Try.prog 9 [] (.bool true) := by
  refine call_plain (hint := none) (N := 54) (fn := Try.f9) (args := []) (r := .bool true) (Sp := sp9) (hints := noHint) (prs := prsOf []) sp9_ok Try.func9 Try.ntmps9 (by kernel_rfl) ((n9 _).mpr ?_)
  refine ⟨fit_nil, fun _ rows1 h1 => ⟨fit_tst, fun _ rows4 h4 => ?_, fun e he hne => absurd (he.trans mk_tst) hne⟩, fun e he hne => absurd (he.trans mk_nil) hne⟩
  have h1 : rows1 = mkS [] := h1
  have h4 : rows4 = mkS tst := h4
  have l1 : rows1.length = 12 := by
    have := mkS_len (ls := []) (mkE_zero mk_nil).1
    rw [h1]
    have e : sumC [] = 0 := rfl
    omega
  have l4 : rows4.length = 24 := by
    have := mkS_len (ls := tst) (mkE_zero mk_tst).1
    rw [h4]
    have e : sumC tst = 12 := by decide +kernel
    omega
  refine ⟨rfl, by rw [h4]; exact mkS_bl _, fun l e hp => ?_⟩
  rw [h4, parse_make fit_tst mk_tst] at hp
  cases hp
  rw [l1, l4]
  intro x9 h9
  subst h9
  refine ⟨fun _ => ⟨rfl, fun _ x13 h13 x15 h15 => ?_⟩, fun h => by cases h⟩
  subst h13; subst h15
  refine ⟨fun _ x18 h18 => ?_, fun h => by cases h⟩
  subst h18
  refine ⟨fun _ => ⟨rfl, fun _ x22 h22 x24 h24 => ?_⟩, fun h => by cases h⟩
  subst h22; subst h24
  refine ⟨fun _ x27 h27 => ?_, fun h => by cases h⟩
  subst h27
  refine ⟨fun _ _ x31 h31 x33 h33 => ?_, fun h => by cases h⟩
  subst h31; subst h33
  refine ⟨fun _ => ⟨by decide, by decide, [84, 101, 115, 116], [120], rfl, fun x38 h38 => ?_⟩, fun h => by cases h⟩
  rw [h38]
  rfl
theorem b9_ok (args : List V) (k : V → Prop) (h : b9 args k) : ∃ r, CallP Try.prog 9 args r ∧ k r := by
  unfold b9 at h
  split at h
  · exact ⟨_, c9, h⟩
  · exact h.elim
theorem sp3_ok : SpOk Try.prog sp3 := shAdd_ok h10_ok (spAdd_ok b11_ok (spAdd_ok b8_ok (spAdd_ok b9_ok (spAdd_ok b12_ok (spAdd_ok b13_ok spNil_ok)))))
theorem sumC_ge : ∀ (l : List V), 8 * (l.length : Int) ≤ sumC l ∧ ∀ u ∈ l, ((dtV u).length : Int) ≤ sumC l
  | [] => ⟨by simp [sumC], fun u hu => by cases hu⟩
  | v :: r => by
    obtain ⟨h1, h2⟩ := sumC_ge r
    have hf := fill_rng ((dtV v).length : Int)
    refine ⟨by simp only [sumC, szC, List.length_cons]; omega, fun u hu => ?_⟩
    rcases List.mem_cons.1 hu with rfl | hu
    · simp only [sumC, szC]; omega
    · have := h2 u hu
      simp only [sumC, szC]; omega
theorem fit_parse {vs l : List V} (hb : BLs vs) (hl : vs.length ≤ 70000) (h : parseS vs = (l, 0)) : FitC l ∧ mkE l = 0 ∧ mkS l = vs := by
  obtain ⟨h1, h2, h3⟩ := make_parse hb h
  have hlen := mkS_len h1
  rw [h2] at hlen
  obtain ⟨g1, g2⟩ := sumC_ge l
  have h65 : ¬ (vs.length : Int) > 65536 := by
    intro hgt
    unfold parseS at h
    rw [if_pos hgt] at h
    cases h
  refine ⟨⟨h3, by omega, fun u hu => by have := g2 u hu; omega⟩, ?_, h2⟩
  unfold mkE
  rw [if_pos h1, if_neg (by omega)]
theorem back2 {vs : List V} (hb : BLs vs) (hl : vs.length ≤ 70000) : (BLs vs ∧ List.length vs ≤ 1000000) ∧ BLs vs ∧ ∀ (l28 : List V) (e29 : Int), parseS vs = (l28, e29) → ∀ (x31 : Bool), x31 = (e29 == 0) →
    (x31 = true → FitC l28 ∧ (mkE l28 = 0 → ∀ (rows35 : List V), rows35 = mkS l28 → ∀ (x37 : Bool), x37 = ((0 : Int) != 0) → (x37 = true → V.bool true = V.bool false) ∧ (x37 = false →
      (some IntKind.u8 = some IntKind.u8 ∧ some 1 = some 1 ∧ true = true ∧ List.length rows35 = List.length rows35 ∧ ∀ (v41 : V), List.Mem v41 rows35 → isByte v41) ∧
      (True → ∀ (x44 : List UInt8), x44 = List.map byteV rows35 → (some IntKind.u8 = some IntKind.u8 ∧ some 1 = some 1 ∧ true = true ∧ True ∧ V.list false vs ≠ V.junk ∧ ∀ (v46 : V), List.Mem v46 vs → isByte v46) ∧
        (True → ∀ (x49 : List UInt8), x49 = List.map byteV vs → ∀ (x51 : Bool), x51 = (x44 != x49) → (x51 = true → V.bool true = V.bool false) ∧ (x51 = false → V.bool true = V.bool true))))) ∧
      ∀ (e55 : Int), e55 = mkE l28 → e55 ≠ 0 → ∀ (x58 : Bool), x58 = (e55 != 0) → (x58 = true → V.bool true = V.bool false) ∧ (x58 = false →
        (some IntKind.u8 = some IntKind.u8 ∧ some 1 = some 1 ∧ true = true ∧ True ∧ V.nils ≠ V.junk ∧ ∀ (v62 : V), List.Mem v62 [] → isByte v62) ∧
        (True → ∀ (x65 : List UInt8), x65 = [] → (some IntKind.u8 = some IntKind.u8 ∧ some 1 = some 1 ∧ true = true ∧ True ∧ V.list false vs ≠ V.junk ∧ ∀ (v67 : V), List.Mem v67 vs → isByte v67) ∧
          (True → ∀ (x70 : List UInt8), x70 = List.map byteV vs → ∀ (x72 : Bool), x72 = (x65 != x70) → (x72 = true → V.bool true = V.bool false) ∧ (x72 = false → V.bool true = V.bool true))))) ∧
    (x31 = false → V.bool true = V.bool true) := by
  refine ⟨⟨hb, by omega⟩, hb, fun l e hp x hx => ⟨fun h => ?_, fun _ => rfl⟩⟩
  rw [hx] at h
  have he : e = 0 := by simpa using h
  subst he
  obtain ⟨hf, hm, hs⟩ := fit_parse hb hl hp
  refine ⟨hf, fun _ rows hr x37 h37 => ?_, fun e he hne => absurd (he.trans hm) hne⟩
  subst h37
  refine ⟨fun h => (by cases h), fun _ => ⟨⟨rfl, rfl, rfl, rfl, fun v hv => ?_⟩, fun _ x44 h44 => ⟨⟨rfl, rfl, rfl, trivial, (fun h => by cases h), fun v hv => hb v hv⟩, fun _ x49 h49 x51 h51 => ?_⟩⟩⟩
  · rw [hr] at hv; exact mkS_bl _ v hv
  · rw [h51, h44, h49, hr, hs]
    simp
theorem c3 (vs ls : List V) (hb : BLs vs) (hc : CLs ls) : CallP Try.prog 3 [.list false vs, .list false ls] (.bool true) := by
  refine call_plain sp3_ok Try.func3 Try.ntmps3 (by kernel_rfl) ((n3 vs ls _).mpr ?_)
  intro _ x1 h1 x3 h3
  subst h1; subst h3
  refine ⟨fun _ => rfl, fun h => ⟨hc, fun x7 h7 => ⟨fun _ => rfl, fun h8 => ?_⟩⟩⟩
  have hl : vs.length ≤ 70000 := by have := of_decide_eq_false h; omega
  have hfew : fewP ls := by rw [h7] at h8; exact decJ_iff.1 (by simpa using h8)
  have hf := fit_few hc hfew
  have hB := back2 hb hl
  refine ⟨hf, fun hm rows hr x14 h14 => ?_, fun e he hne x130 h130 => ?_⟩
  · have hr : rows = mkS ls := hr
    subst h14
    refine ⟨fun _ => ⟨rfl, by rw [hr]; exact mkS_bl _, fun l e hp x20 h20 => ?_⟩, fun h => by cases h⟩
    rw [hr, parse_make hf hm] at hp
    cases hp
    subst h20
    refine ⟨fun h => (by cases h), fun _ => ⟨⟨hc, hc⟩, fun x24 h24 => ?_⟩⟩
    rw [decJ_true rfl] at h24
    subst h24
    exact ⟨fun h => (by cases h), fun _ => hB⟩
  · have h130 : x130 = false := by rw [h130]; simpa using hne
    subst h130
    exact ⟨fun h => (by cases h), fun _ => hB⟩
end GoL
