/- A part of the proof: a logic for programs of this kind, proved sound over the model; contracts of functions; plain laws. -/
import Derived.Test.YtegbngnjdpihhaaVD
import Derived.Test.YtegbngnjdpihhaaRL
set_option linter.all false
open Go Go.Proofs
namespace GoL
set_option linter.unusedVariables false
set_option linter.unusedSimpArgs false
/-! plain laws of slots -/
def kd (k : Int × Int) : V := .agg [.int .i64 k.1, .int .i64 k.2]
def KX (x : Int) : Prop := x = 1 ∨ x = 2 ∨ x = 4 ∨ x = 8 ∨ x = 16 ∨ x = 32 ∨ x = 64
theorem kx_of {j : Int} (h0 : 0 ≤ j) (h1 : j < 7) : KX (IntKind.wrap IntKind.i64 (1 * 2 ^ min (Int.toNat (IntKind.wrap IntKind.u64 j)) 64)) ∧ 0 ≤ IntKind.wrap IntKind.u64 j := by
  have h : j = 0 ∨ j = 1 ∨ j = 2 ∨ j = 3 ∨ j = 4 ∨ j = 5 ∨ j = 6 := by omega
  unfold KX
  rcases h with rfl | rfl | rfl | rfl | rfl | rfl | rfl <;> decide +kernel
theorem nv_kd : NV = kd (0, -1) := rfl
theorem k1 {x : Int} (h : KX x) : maskOk (kd (meet x (-1) (-1))) = true := by
  rcases h with rfl | rfl | rfl | rfl | rfl | rfl | rfl <;> decide +kernel
theorem k2 {x : Int} (h : KX x) : saidV (kd (meet x (-1) (-1))) = (x, -1) := by
  rcases h with rfl | rfl | rfl | rfl | rfl | rfl | rfl <;> decide +kernel
theorem k3 {x : Int} (h : KX x) : alikeK (meet x (-1) (-1)).1 (meet x (-1) (-1)).2 0 (-1) = false := by
  rcases h with rfl | rfl | rfl | rfl | rfl | rfl | rfl <;> decide +kernel
theorem k4 : maskOk NV = true := by decide +kernel
theorem k5 : saidV NV = (0, -1) := by decide +kernel
theorem k6 : maskOk (kd (meet 256 7 (-1))) = false := by decide +kernel
theorem putY_eq (ys : List V) (n m a : Int) : putY ys n m a = ys.set n.toNat (kd (meet m a (-1))) := rfl
theorem getV_set {ys : List V} {n : Int} {e : V} (h1 : n.toNat < ys.length) : getV (ys.set n.toNat e) n = e := by
  simp [getV, List.getD, h1]
theorem getV_rep {N n : Int} (h0 : 0 ≤ n) (h1 : n < N) : getV (List.replicate N.toNat NV) n = NV := by
  have : n.toNat < N.toNat := by omega
  simp [getV, List.getD, this]
theorem slot_yes {ys : List V} {n : Int} (h0 : 0 ≤ n) (h1 : n < ys.length) : slotB true ys n = true := by
  simp [slotB, h0, h1]
theorem slot_no {ys : List V} {n : Int} (h1 : ¬ n < ys.length) : slotB true ys n = false := by
  have : decide (n < (ys.length : Int)) = false := by simpa using h1
  simp [slotB, this]
theorem put_at {ys : List V} {n : Int} (h0 : 0 ≤ n) (h1 : n < ys.length) : putOk true ys n = maskOk (getV ys n) := by
  simp only [putOk, slot_yes h0 h1, if_true]
theorem src_at {ys : List V} {n : Int} (h0 : 0 ≤ n) (h1 : n < ys.length) : srcK true ys n = saidV (getV ys n) := by
  simp only [srcK, slot_yes h0 h1, if_true]
theorem kls_rep (n : Nat) : KLs (List.replicate n NV) := fun v hv => by
  rw [List.eq_of_mem_replicate hv]
  exact ⟨0, -1, rfl⟩
theorem kls_set {ys : List V} (h : KLs ys) (n : Nat) (k : Int × Int) : KLs (ys.set n (kd k)) := fun v hv => by
  rcases List.mem_or_eq_of_mem_set hv with hv | rfl
  · exact h v hv
  · exact ⟨_, _, rfl⟩
theorem idxF_some : ∀ {ys : List V} (i : Int), KLs ys → NV ∈ ys → 0 ≤ i → 0 ≤ idxF ys i
  | [], i, h, hm, hi => by cases hm
  | v :: r, i, h, hm, hi => by
    obtain ⟨m, a, e⟩ := h v (by simp)
    subst e
    simp only [idxF]
    split
    · exact hi
    · rename_i hn
      refine idxF_some (i + 1) (fun u hu => h u (by simp [hu])) ?_ (by omega)
      rcases List.mem_cons.1 hm with e | hm
      · exfalso
        have e : V.agg [.int .i64 0, .int .i64 (-1)] = V.agg [.int .i64 m, .int .i64 a] := e
        simp only [V.agg.injEq, List.cons.injEq, V.int.injEq, true_and, and_true] at e
        rw [← e.1, ← e.2] at hn
        exact hn (al_refl _ _)
      · exact hm
theorem ready_no {ys : List V} (h : KLs ys) (hm : NV ∈ ys) : readyB true ys = false := by
  have := idxF_some 0 h hm (Int.le_refl 0)
  simp [readyB, this]
theorem ready_rep {N : Int} (h : 1 ≤ N) : readyB true (List.replicate N.toNat NV) = false :=
  ready_no (kls_rep _) (by rw [List.mem_replicate]; exact ⟨by omega, rfl⟩)
theorem ready_set {N M x : Int} (h0 : 0 ≤ M) (h1 : M < N) (hx : KX x) : readyB true ((List.replicate N.toNat NV).set M.toNat (kd (meet x (-1) (-1)))) = (N == 1) := by
  by_cases h : N = 1
  · subst h
    have : M = 0 := by omega
    subst this
    have e : (List.replicate (Int.toNat 1) NV).set (Int.toNat 0) (kd (meet x (-1) (-1))) = [kd (meet x (-1) (-1))] := rfl
    rw [e]
    simp only [readyB, if_true, kd, idxF, k3 hx]
    decide
  · have hb : (N == 1) = false := by simpa using h
    rw [hb]
    refine ready_no (kls_set (kls_rep _) _ _) ?_
    by_cases hM : M = 0
    · have : ((List.replicate N.toNat NV).set M.toNat (kd (meet x (-1) (-1))))[1]? = some NV := by
        subst hM
        rw [List.getElem?_set_ne (by simp)]
        rw [List.getElem?_replicate, if_pos (by omega)]
      exact List.mem_of_getElem? this
    · have : ((List.replicate N.toNat NV).set M.toNat (kd (meet x (-1) (-1))))[0]? = some NV := by
        rw [List.getElem?_set_ne (by omega)]
        rw [List.getElem?_replicate, if_pos (by omega)]
      exact List.mem_of_getElem? this
end GoL
