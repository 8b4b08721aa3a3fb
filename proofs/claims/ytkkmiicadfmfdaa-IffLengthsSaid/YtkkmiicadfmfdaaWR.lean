/- A part of the proof: a logic for programs of this kind, proved sound over the model; contracts of functions; plain laws. -/
import Derived.Test.YtkkmiicadfmfdaaWQ
set_option linter.all false
open Go Go.Proofs
namespace GoL
set_option linter.unusedVariables false
set_option linter.unusedSimpArgs false
set_option maxRecDepth 8000
theorem c5 (xs : List V) (v : Int) (hx : StL xs) (hle : xs.length ≤ 9223372036854775807) (v0 : 0 ≤ v) (v1 : v < 4294967296) : CallP Try.prog 5 [.list false xs, .int .u32 v] (.bool true) := by
  refine call_loops sp5_ok Try.func5 Try.ntmps5 (by kernel_rfl) (loopsOf_ok ?_) ((n5 xs v _).mpr ?_)
  · have e : loopsOf 0 (bodyOf Try.f5) = [lcode Try.f5 0] := by kernel_rfl
    rw [e]
    intro p hp
    simp only [List.mem_cons, List.not_mem_nil, or_false] at hp
    subst hp
    exact lsAdd_hit lp5
  · refine ⟨hx, hle, rfl, fun hA => ?_, fun _ => rfl⟩
    have hk5 : min 5 xs.length ≤ 5 := by omega
    have hkx : min 5 xs.length ≤ xs.length := by omega
    generalize min 5 xs.length = k at hk5 hkx
    have hb : ∀ j : Nat, j < k → (strV (getV xs (j : Nat))).length ≤ 500 := fun j hj => by
      have := hA (j : Int) (by omega) (by omega) (by omega)
      omega
    obtain ⟨hf, hE⟩ := cS_fit (xs := xs) (k := k) (m := 500) (by omega) (by omega) hb
    have hsum := cS_sum (xs := xs) (m := 500) k hb
    have hsum2 : (k : Int) * (((500 : Nat) : Int) + 11) ≤ 5 * 511 := Int.mul_le_mul_of_nonneg_right (by omega) (by omega)
    have hpm := parse_make hf hE
    have hRl : ((mkRows (cS xs k)).length : Int) = sumC (cS xs k) := mkRows_len _ fun u hu => named_len (mkErr_named _ _ (mkE_zero hE).1 u hu)
    have hRb := mkRows_bl (cS xs k)
    refine ⟨rfl, hf, fun _ rows hr x8 h8 => ?_, fun e he hne => absurd (he.trans hE) hne⟩
    have hr : rows = mkHd (4 + sumC (cS xs k)) ++ mkRows (cS xs k) := hr
    have hpm : parseS (mkHd (4 + sumC (cS xs k)) ++ mkRows (cS xs k)) = (cS xs k, 0) := hpm
    generalize mkRows (cS xs k) = R at hr hRl hRb hpm
    generalize hn : 4 + sumC (cS xs k) = n at *
    have hlen : (rows.length : Int) = 12 + R.length := by rw [hr, List.length_append, mkHd_len]; omega
    subst h8
    refine ⟨fun h => (by cases h), fun _ => ⟨rfl, fun _ x13 h13 x15 h15 => ?_⟩⟩
    subst h13
    refine ⟨fun h => ?_, fun _ => ⟨rfl, fun _ x20 h20 => ⟨rfl, fun _ x23 h23 x25 h25 x27 h27 => ⟨by decide, fun _ x30 h30 => ⟨rfl, fun _ x33 h33 => ⟨by decide, fun _ x36 h36 => ⟨rfl, fun _ x39 h39 => ⟨by decide, fun _ x42 h42 => ⟨rfl, fun _ x45 h45 => ⟨rfl, fun _ x48 h48 => ?_⟩⟩⟩⟩⟩⟩⟩⟩⟩⟩
    · rw [h15] at h
      have := of_decide_eq_true h
      omega
    subst h23
    have e20 : x20 = v := by rw [h20, IntKind.wrap_i64]; omega
    have e25 : x25 = (R.length : Int) + 4 := by rw [h25, IntKind.wrap_i64]; omega
    subst e20; subst e25
    have p24 : (2 : Int) ^ 24 = 16777216 := by decide
    have p16 : (2 : Int) ^ 16 = 65536 := by decide
    have p8 : (2 : Int) ^ 8 = 256 := by decide
    rw [p24] at h30; rw [p16] at h36; rw [p8] at h42
    subst h30; subst h36; subst h42
    subst hr
    let o1 : V := .int .u8 (IntKind.u8.wrap (n.fdiv 65536))
    let o2 : V := .int .u8 (IntKind.u8.wrap (n.fdiv 256))
    let o3 : V := .int .u8 (IntKind.u8.wrap n)
    let T : List V := [V.int .u8 66, .int .u8 69, .int .u8 65, .int .u8 77] ++ R
    let r1 : List V := [V.int .u8 70, .int .u8 79, .int .u8 82, .int .u8 49, .int .u8 x33, o1, o2, o3] ++ T
    let r2 : List V := [V.int .u8 70, .int .u8 79, .int .u8 82, .int .u8 49, .int .u8 x33, .int .u8 x39, o2, o3] ++ T
    let r3 : List V := [V.int .u8 70, .int .u8 79, .int .u8 82, .int .u8 49, .int .u8 x33, .int .u8 x39, .int .u8 x45, o3] ++ T
    let r4 : List V := [V.int .u8 70, .int .u8 79, .int .u8 82, .int .u8 49, .int .u8 x33, .int .u8 x39, .int .u8 x45, .int .u8 x48] ++ T
    have l4 : r4 = mkHd x20 ++ R := by
      show [V.int .u8 70, .int .u8 79, .int .u8 82, .int .u8 49, .int .u8 x33, .int .u8 x39, .int .u8 x45, .int .u8 x48] ++ T = _
      rw [h33, h39, h45, h48]
      rfl
    have hl : ∀ (a b c d : V), ([V.int .u8 70, .int .u8 79, .int .u8 82, .int .u8 49, a, b, c, d] ++ T).length = 12 + R.length := fun a b c d => by
      simp only [T, List.length_append, List.length_cons, List.length_nil]; omega
    have hll : (mkHd n ++ R).length = 12 + R.length := by omega
    have hb4 : BLs r4 := by rw [l4]; exact BLs_app (hd_bl _) hRb
    refine ⟨rfl, by decide, by omega, rfl, rfl, by simp, rfl, ⟨_, rfl, rfl, rfl⟩, r1, rfl, by rw [hll]; exact (hl _ _ _ _).symm,
      by decide, by omega, rfl, by rw [hll]; exact (hl _ _ _ _).symm, by simp, rfl, ⟨_, rfl, rfl, rfl⟩, r2, rfl, by rw [hll]; exact (hl _ _ _ _).symm,
      by decide, by omega, rfl, by rw [hll]; exact (hl _ _ _ _).symm, by simp, rfl, ⟨_, rfl, rfl, rfl⟩, r3, rfl, by rw [hll]; exact (hl _ _ _ _).symm,
      by decide, by omega, rfl, by rw [hll]; exact (hl _ _ _ _).symm, by simp, rfl, ⟨_, rfl, rfl, rfl⟩, r4, rfl, by rw [hll]; exact (hl _ _ _ _).symm, hb4, fun l e hp => ?_⟩
    rw [l4] at hp
    by_cases hv : x20 = (R.length : Int) + 4
    · have h27 : x27 = true := by rw [h27, hv]; simp
      subst h27
      have e : x20 = n := by omega
      rw [e, hpm] at hp
      cases hp
      refine ⟨fun _ x62 h62 => ?_, fun h => by cases h⟩
      subst h62
      refine ⟨fun _ _ x66 h66 => ⟨rfl, fun _ x69 h69 x71 h71 => ?_⟩, fun h => by cases h⟩
      have h71 : x71 = true := by rw [h71, h66, h69]; simp
      subst h71
      exact ⟨fun _ => ⟨fun _ => rfl, fun h => by cases h⟩, fun h => by cases h⟩
    · have h27 : x27 = false := by rw [h27]; simpa using hv
      subst h27
      rw [hd_bad v0 v1 (by omega) hv] at hp
      cases hp
      refine ⟨fun h => (by cases h), fun _ x163 h163 => ?_⟩
      subst h163
      refine ⟨fun _ x166 h166 => ?_, fun h => by cases h⟩
      subst h166
      refine ⟨fun _ _ x170 h170 x172 h172 => ?_, fun h => by cases h⟩
      subst h170
      subst h172
      exact ⟨fun _ => rfl, fun h => by cases h⟩
end GoL
