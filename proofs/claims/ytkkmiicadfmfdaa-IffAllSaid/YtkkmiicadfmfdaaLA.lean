/- A part of the proof: a logic for programs of this kind, proved sound over the model; contracts of functions; plain laws. -/
import Derived.Test.YtkkmiicadfmfdaaLD
import Derived.Test.YtkkmiicadfmfdaaJP
set_option linter.all false
open Go Go.Proofs
namespace GoL
set_option linter.unusedVariables false
set_option linter.unusedSimpArgs false
set_option maxRecDepth 8000
theorem bl_len (s : List UInt8) : (bl s).length = s.length := by simp [bl]
theorem byteV_of (b : UInt8) : byteV (.int .u8 (b.toNat : Int)) = b := by
  show UInt8.ofNat ((b.toNat : Int)).toNat = b
  rw [Int.toNat_natCast]
  exact UInt8.ofNat_toNat
theorem BLs_bl (s : List UInt8) : BLs (bl s) := by
  intro v hv
  obtain ⟨b, _, rfl⟩ := List.mem_map.1 hv
  unfold isByte
  rw [byteV_of]
theorem BLs_app {a b : List V} (h : BLs a) (h' : BLs b) : BLs (a ++ b) := fun v hv => (List.mem_append.1 hv).elim (h v) (h' v)
theorem BLs_rep (n : Nat) : BLs (List.replicate n (.int .u8 0)) := fun v hv => by
  rw [List.eq_of_mem_replicate hv]
  exact isByte_int (by omega) (by omega)
theorem BLs_noids {a : List V} (h : BLs a) : NoIds a := fun v hv => by rw [h v hv]; rfl
theorem chB_bl (u : V) : BLs (chB u) := BLs_app (BLs_app (BLs_app (BLs_bl _) (BLs_four _)) (BLs_bl _)) (BLs_rep _)
theorem chB_len (u : V) : ((chB u).length : Int) = (nmV u).length + 4 + (dtV u).length + fillI (dtV u).length := by
  have := fill_rng ((dtV u).length : Int)
  simp only [chB, List.length_append, bl_len, List.length_replicate, fourV, List.length_cons, List.length_nil]
  omega
theorem mkRows_bl : ∀ (ls : List V), BLs (mkRows ls)
  | [] => fun v hv => by cases hv
  | u :: r => by
    have : mkRows (u :: r) = chB u ++ mkRows r := by simp [mkRows]
    rw [this]
    exact BLs_app (chB_bl u) (mkRows_bl r)
theorem take_s {ls : List V} {i : Nat} (h : i < ls.length) : ls.take (i + 1) = ls.take i ++ [ls[i]] := by
  rw [List.take_add_one, List.getElem?_eq_getElem h]; rfl
theorem mkRows_app (a b : List V) : mkRows (a ++ b) = mkRows a ++ mkRows b := by simp [mkRows]
theorem mkRows_one (u : V) : mkRows [u] = chB u := by simp [mkRows]
theorem sumC_app : ∀ (a b : List V), sumC (a ++ b) = sumC a + sumC b
  | [], b => by simp [sumC]
  | u :: r, b => by simp only [List.cons_append, sumC, sumC_app r b]; omega
theorem szC_rng (u : V) (h : (dtV u).length ≤ 100000) : 8 ≤ szC u ∧ szC u ≤ 100011 := by
  have := fill_rng ((dtV u).length : Int)
  unfold szC
  omega
theorem sumC_rng : ∀ (l : List V), (∀ u ∈ l, (dtV u).length ≤ 100000) → 0 ≤ sumC l ∧ sumC l ≤ l.length * 100011
  | [], _ => by simp [sumC]
  | u :: r, h => by
    have h1 := szC_rng u (h u (by simp))
    have h2 := sumC_rng r fun v hv => h v (by simp [hv])
    simp only [sumC, List.length_cons]
    omega
theorem mkRows_len : ∀ (ls : List V), (∀ u ∈ ls, (nmV u).length = 4) → ((mkRows ls).length : Int) = sumC ls
  | [], _ => by simp [mkRows, sumC]
  | u :: r, h => by
    have e : mkRows (u :: r) = chB u ++ mkRows r := by simp [mkRows]
    have h1 := h u (by simp)
    have h2 := chB_len u
    have h3 := mkRows_len r fun v hv => h v (by simp [hv])
    rw [e, List.length_append]
    simp only [sumC, szC]
    omega
theorem mkErr_rng : ∀ (ls pre : List V), mkErrR pre ls = 0 ∨ mkErrR pre ls = 1 ∨ mkErrR pre ls = 6
  | [], pre => .inl rfl
  | u :: r, pre => by
    unfold mkErrR
    split
    · exact .inr (.inl rfl)
    · split
      · exact .inr (.inr rfl)
      · exact mkErr_rng r _
theorem mkErr_named : ∀ (ls pre : List V), mkErrR pre ls = 0 → ∀ u ∈ ls, namedS (nmV u) = true
  | [], pre, _, u, hu => by cases hu
  | v :: r, pre, h, u, hu => by
    unfold mkErrR at h
    split at h
    · cases h
    · rename_i h1
      split at h
      · cases h
      · rcases List.mem_cons.1 hu with rfl | hu
        · simpa using h1
        · exact mkErr_named r _ h u hu
theorem named_len {s : List UInt8} (h : namedS s = true) : s.length = 4 := by
  unfold namedS at h
  split at h
  · rename_i h1
    have : (s.length : Int) = 4 := by simpa using h1
    omega
  · cases h
theorem decJ_true {p : Prop} (h : p) : decJ p = true := by unfold decJ; exact @decide_eq_true p (Classical.propDecidable p) h
theorem decJ_false {p : Prop} (h : ¬ p) : decJ p = false := by unfold decJ; exact @decide_eq_false p (Classical.propDecidable p) h
theorem decJ_iff {p : Prop} : decJ p = true ↔ p := by
  constructor
  · intro h
    by_cases hp : p
    · exact hp
    · rw [decJ_false hp] at h; cases h
  · exact decJ_true
end GoL
