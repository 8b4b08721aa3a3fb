/- A part of the proof: a logic for programs of this kind, proved sound over the model; contracts of functions; plain laws. -/
import Derived.Test.YtkkmiicadfmfdaaXQ
set_option linter.all false
open Go Go.Proofs
namespace GoL
set_option linter.unusedVariables false
set_option linter.unusedSimpArgs false
set_option maxRecDepth 8000
theorem parse_cls {vs l : List V} {e : Int} (hb : BLs vs) (h : parseS vs = (l, e)) : CLs l := by
  by_cases he : e = 0
  · subst he
    exact (make_parse hb h).2.2
  · have : l = [] := by
      unfold parseS at h
      split at h
      · exact (congrArg Prod.fst h).symm
      · split at h
        · exact (congrArg Prod.fst h).symm
        · split at h
          · exact (congrArg Prod.fst h).symm
          · have h2 : (parseR [] (vs.drop 12)).2 ≠ 0 := by rw [h]; exact he
            have := parse_bad 0 _ _ h2
            rw [h] at this
            exact this
    subst this
    exact cls_nil
theorem c6 (vs ls : List V) (s : List UInt8) (hb : BLs vs) (hc : CLs ls) : CallP Try.prog 6 [.list false vs, .list false ls, .str s] (.bool true) := by
  refine call_plain sp6_ok Try.func6 Try.ntmps6 (by kernel_rfl) ((n6 vs ls s _).mpr ?_)
  intro _ x1 h1 x3 h3
  subst h1; subst h3
  refine ⟨fun _ => rfl, fun h => ⟨hc, fun x7 h7 => ⟨fun _ => rfl, fun h8 => ?_⟩⟩⟩
  have hl : vs.length ≤ 70000 := by have := of_decide_eq_false h; omega
  have hfew : fewP ls := by rw [h7] at h8; exact decJ_iff.1 (by simpa using h8)
  have hf := fit_few hc hfew
  have hl12 := hfew.1
  have hS : sumC ls ≤ 1000000 := by
    have := sumC_rng ls hf.2.2
    have : (ls.length : Int) * 100011 ≤ 12 * 100011 := Int.mul_le_mul_of_nonneg_right (by omega) (by omega)
    have key : ∀ (l : List V), (∀ u ∈ l, okC u) → sumC l ≤ l.length * 3011 := by
      intro l
      induction l with
      | nil => intro _; simp [sumC]
      | cons u r ih =>
        intro hh
        have h1 := ih fun v hv => hh v (by simp [hv])
        have h2 := (hh u (by simp)).1
        have hf := fill_rng ((dtV u).length : Int)
        simp only [sumC, szC, List.length_cons]
        omega
    have := key ls hfew.2
    omega
  refine ⟨⟨hb, by omega⟩, hb, fun l11 e12 hp1 => ⟨hb, fun l14 e15 hp2 => ⟨⟨⟨rfl, trivial⟩, fun v hv => ?_, rfl, rfl, 32, rfl, by omega, by omega⟩, fun _ => ⟨rfl, hf, fun hm rows22 hr => ⟨hf, hS, fun _ rows25 hr2 => ?_, fun e65 he hne => absurd (he.trans hm) hne⟩, fun e106 he106 hne => ⟨hf, hS, fun hm => absurd (he106.trans hm) hne, fun e150 he150 hne2 => ?_⟩⟩⟩⟩⟩
  · obtain ⟨a, b, rfl⟩ := hc v hv; rfl
  · rw [hp1] at hp2
    cases hp2
    have hcl := parse_cls hb hp1
    have hr : rows22 = mkS ls := hr
    have hr2 : rows25 = mkS ls := hr2
    refine ⟨hc, fun d27 b28 hf1 => ⟨hc, fun d30 b31 hf2 => ⟨⟨hcl, hcl⟩, fun _ x34 h34 => ⟨fun _ => ⟨⟨rfl, rfl, rfl, rfl, fun v hv => ?_⟩, fun _ x40 h40 => ⟨⟨rfl, rfl, rfl, trivial, (fun h => by cases h), fun v hv => ?_⟩, fun _ x45 h45 x47 h47 => ?_⟩⟩, fun h => ?_⟩, fun h => ?_⟩⟩⟩
    · rw [hr] at hv; exact mkS_bl _ v hv
    · rw [hr2] at hv; exact mkS_bl _ v hv
    · rw [hf1] at hf2
      cases hf2
      have h47 : x47 = true := by rw [h47, h40, h45, hr, hr2]; simp
      subst h47
      refine ⟨fun _ x50 h50 => ?_, fun h => by cases h⟩
      subst h50
      refine ⟨fun _ x53 h53 => ?_, fun h => by cases h⟩
      have h53 : x53 = true := by rw [h53]; simp
      subst h53
      refine ⟨fun _ x56 h56 => ?_, fun h => by cases h⟩
      have h56 : x56 = true := by rw [h56]; simp
      subst h56
      exact ⟨fun _ => rfl, fun h => by cases h⟩
    · rw [h34] at h; simp at h
    · rw [decJ_true rfl] at h; cases h
  · rw [hp1] at hp2
    cases hp2
    have hcl := parse_cls hb hp1
    refine ⟨hc, fun d27 b28 hf1 => ⟨hc, fun d30 b31 hf2 => ⟨⟨hcl, hcl⟩, fun _ x34 h34 => ⟨fun _ => ⟨⟨rfl, rfl, rfl, trivial, (fun h => by cases h), fun v hv => (by cases hv)⟩, fun _ x40 h40 => ⟨⟨rfl, rfl, rfl, trivial, (fun h => by cases h), fun v hv => (by cases hv)⟩, fun _ x45 h45 x47 h47 => ?_⟩⟩, fun h => ?_⟩, fun h => ?_⟩⟩⟩
    · rw [hf1] at hf2
      cases hf2
      have h47 : x47 = true := by rw [h47, h40, h45]; simp
      subst h47
      refine ⟨fun _ x50 h50 => ?_, fun h => by cases h⟩
      have h50 : x50 = true := by rw [h50, he106, he150]; simp
      subst h50
      refine ⟨fun _ x53 h53 => ?_, fun h => by cases h⟩
      have h53 : x53 = true := by rw [h53]; simp
      subst h53
      refine ⟨fun _ x56 h56 => ?_, fun h => by cases h⟩
      have h56 : x56 = true := by rw [h56]; simp
      subst h56
      exact ⟨fun _ => rfl, fun h => by cases h⟩
    · rw [h34] at h; simp at h
    · rw [decJ_true rfl] at h; cases h
end GoL
