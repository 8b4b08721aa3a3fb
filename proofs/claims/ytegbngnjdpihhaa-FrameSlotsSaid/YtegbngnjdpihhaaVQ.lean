/- A part of the proof: a logic for programs of this kind, proved sound over the model; contracts of functions; plain laws. -/
import Derived.Test.YtegbngnjdpihhaaVP
import Derived.Test.YtegbngnjdpihhaaVL
set_option linter.all false
open Go Go.Proofs
namespace GoL
set_option linter.unusedVariables false
set_option linter.unusedSimpArgs false
set_option maxRecDepth 8000
attribute [local irreducible] wC
theorem lp3 : LsOk Try.prog 136 1032 [7, 8, 9, 10, 12, 13] [1014, 1017] ent3 (lcode Try.f3 0).2 := by
  intro vs ks1 K h
  unfold ent3 at h
  split at h
  · rename_i _ n m p i x y X a1 a2 a3 a4
    obtain ⟨rfl, hn, hn2, f, rfl, he, hK⟩ := h
    simp only [List.cons.injEq, and_true] at he
    obtain ⟨rfl, rfl, rfl, rfl⟩ := he
    refine TL_ownB (i := 1017) (E := 25) (p := [2]) (x := .agg [.agg (arrF 16 f), .bool true, .nils, .int .i64 0, .nils]) (fz := false) rfl rfl ?_
    have hcc : cutK 1033 [7, 8, 9, 10, 12, 13] [1014, 1017, 1032] (fun vs ks => vs = [.int .i64 n, .int .i64 m, .ptr 1014 0 [], .ptr 1017 0 [], .bool p, .int .i64 0] ∧ ks = [⟨none, false, .agg [.int .i64 x, .int .i64 y]⟩, ⟨none, false, .agg [.agg (arrF 16 f), .bool true, .sl 1032 0, .int .i64 0, .nils]⟩, ⟨some 25, false, .agg []⟩]) 1033
      (List.zip [7, 8, 9, 10, 12, 13] [.int .i64 n, .int .i64 m, .ptr 1014 0 [], .ptr 1017 0 [], .bool p, .int .i64 0]) ((1017, ⟨none, false, V.upd (.sl 1032 0) (.agg [.agg (arrF 16 f), .bool true, .nils, .int .i64 0, .nils]) [2]⟩) :: (1032, ⟨some 25, false, .agg []⟩) :: List.zip [1014, 1017] [⟨none, false, .agg [.int .i64 x, .int .i64 y]⟩, ⟨none, false, .agg [.agg (arrF 16 f), .bool true, .nils, .int .i64 0, .nils]⟩]) := ⟨fun v hv => (by cases hv), rfl, rfl⟩
    obtain ⟨vs, ks, ⟨rfl, rfl⟩, hw⟩ := cutK_go hcc
    have hL := loop_rule (N := 136) (c := (lcode Try.f3 0).2) (hints := noHint) (prs := prsOf [(5, [[], [], [], [0, 1, 2], [3, 0, 1, 2], [4, 3, 0, 1, 2], [4, 3, 0, 1, 2], [], [7, 5, 4, 3, 0, 1, 2], [6, 4, 3, 0, 1, 2, 8, 7, 5]]), (11, [[], [], [1], [], [0, 2, 1, 3], [4, 0, 2, 1, 3], [5, 4, 0, 2, 1, 3], [5, 4, 0, 2, 1, 3], [], [8, 6, 5, 4, 0, 2, 1, 3], [7, 5, 4, 0, 2, 1, 3, 9, 8, 6]]), (12, [[], [], [1], [], [0, 2, 1, 3], [4, 0, 2, 1, 3], [5, 4, 0, 2, 1, 3], [5, 4, 0, 2, 1, 3], [], [8, 6, 5, 4, 0, 2, 1, 3], [7, 5, 4, 0, 2, 1, 3, 9, 8, 6]]), (13, [[], [], [1], [], [0, 2, 1, 3], [4, 0, 2, 1, 3], [5, 4, 0, 2, 1, 3], [5, 4, 0, 2, 1, 3], [], [8, 6, 5, 4, 0, 2, 1, 3], [7, 5, 4, 0, 2, 1, 3, 9, 8, 6]]), (14, [[], [], [1], [], [0, 2, 1, 3], [4, 0, 2, 1, 3], [5, 4, 0, 2, 1, 3], [5, 4, 0, 2, 1, 3], [], [8, 6, 5, 4, 0, 2, 1, 3], [7, 5, 4, 0, 2, 1, 3, 9, 8, 6]]), (15, [[], [], [1], [0, 2, 1], [], [4, 3, 0, 2, 1]]), (16, [[], [], [1], [0, 2, 1], [], [4, 3, 0, 2, 1]])]) (Ls := noLs) sp3_ok ends3_0 (γ := Int) (fun i => [.int .i64 n, .int .i64 m, .ptr 1014 0 [], .ptr 1017 0 [], .bool p, .int .i64 i])
      (fun i => [⟨none, false, .agg [.int .i64 x, .int .i64 y]⟩, ⟨none, false, .agg [.agg (arrF 16 f), .bool true, .sl 1032 (List.replicate i.toNat NV).length, .int .i64 0, .nils]⟩, ⟨some 25, false, .agg (List.replicate i.toNat NV)⟩]) (fun i => (n - i).toNat)
      (fun i => 0 ≤ i ∧ i ≤ n) K (noLoop_ok (by kernel_rfl)) (fun i hi => by
        obtain ⟨h0, h1⟩ := hi
        refine (nl3_0 n m x y p f (List.replicate i.toNat NV) i _ _ _).mpr ?_
        have hids : ∀ v ∈ List.replicate i.toNat NV, V.ids v = [] := fun v hv => by rw [List.eq_of_mem_replicate hv]; rfl
        have hle : (List.replicate i.toNat NV).length = i.toNat := by simp
        have happ : List.replicate i.toNat NV ++ [V.agg [V.int IntKind.i64 0, V.int IntKind.i64 (-1)]] = List.replicate (i + 1).toNat NV := by
          rw [show (i + 1).toNat = i.toNat + 1 by omega, List.replicate_succ']; rfl
        intro x0 e0; subst e0
        refine ⟨fun h => ?_, fun h => ?_⟩
        · simp only [decide_eq_true_eq] at h
          refine ⟨⟨rfl, rfl, ⟨rfl, trivial⟩, fun v hv => ?_, rfl, rfl, 16, rfl, ?_, ?_⟩, fun _ x7 e7 => ?_⟩
          · cases hv with
            | head => rfl
            | tail _ h => cases h
          · rw [hle]; simp only [List.length_cons, List.length_nil]; omega
          · rw [hle]; simp only [List.length_cons, List.length_nil]; omega
          · rw [wrap_le h0 (by omega)] at e7; subst e7
            refine ⟨fun v hv => ?_, i + 1, rfl, ?_, by show (n - (i + 1)).toNat < (n - i).toNat; omega, by show 0 ≤ i + 1; omega, by show i + 1 ≤ n; omega⟩
            · rw [happ] at hv
              rw [List.eq_of_mem_replicate hv]; rfl
            · rw [happ, hle]
              have : i.toNat + List.length [V.agg [V.int IntKind.i64 0, V.int IntKind.i64 (-1)]] = (List.replicate (i + 1).toNat NV).length := by simp; omega
              rw [this]
        · simp only [decide_eq_false_iff_not] at h
          have : i = n := by omega
          subst this
          exact ⟨hids, hK _ rfl⟩) 0 ⟨Int.le_refl _, hn⟩
    exact hL.weak hw
  · exact h.elim
theorem sokR (f : Nat → Int × Int) {ys : List V} (h : KLs ys) (hl : ys.length ≤ 1000) : SOk (arrF 16 f) ys [] := ⟨⟨f, rfl⟩, h, hl, (fun _ h => by cases h), by simp⟩
theorem c3 (a b c : Int) : CallP Try.prog 3 [.int .i64 a, .int .i64 b, .int .i64 c] (.bool true) := by
  refine call_loops sp3_ok Try.func3 Try.ntmps3 (by kernel_rfl) (loopsOf_ok fun p hp => ?_) ((n3 a b c _).mpr ?_)
  · have e : loopsOf 0 (bodyOf Try.f3) = [lcode Try.f3 0] := by kernel_rfl
    rw [e] at hp
    simp only [List.mem_cons, List.not_mem_nil, or_false] at hp
    subst hp
    exact lsAdd_hit lp3
  have hN := place_rng (x := a) (n := 12) (by omega) (by omega)
  have hj := place_rng (x := c) (n := 7) (by omega) (by omega)
  refine ⟨by decide, fun N eN => ?_⟩
  have eN : N = 1 + place a 12 := by rw [eN, IntKind.wrap_i64]; omega
  have hM := place_rng (x := b) (n := N) (by omega) (by omega)
  generalize place a 12 = pa at *
  generalize place c 7 = j at *
  generalize place b N = M at *
  have hk := kx_of hj.1 hj.2
  refine ⟨by omega, by decide, rfl, fun _ x3 e3 => ?_⟩
  subst e3
  refine ⟨hk.2, fun _ x6 e6 f e => ?_⟩
  rw [← e6] at hk
  have hk := hk.1
  have s0 : putOk false [] 0 = false := by decide
  refine ⟨rfl, sok0 f, fun h => (by rw [s0] at h; cases h), fun _ => ⟨rfl, by omega, by omega, f, rfl, rfl, fun rows er => ?_⟩⟩
  have er : rows = List.replicate N.toNat NV := er
  have hlen : rows.length = N.toNat := by rw [er]; simp
  have hkl : KLs rows := by rw [er]; exact kls_rep _
  have hMl : M < rows.length := by rw [hlen]; omega
  have hMn : M.toNat < rows.length := by omega
  have hg : getV rows M = NV := by rw [er]; exact getV_rep hM.1 hM.2
  have sR : SOk (arrF 16 f) rows [] := sokR f hkl (by rw [hlen]; omega)
  have p1 : putOk true rows M = true := by rw [put_at hM.1 hMl, hg, k4]
  refine ⟨rfl, rfl, sR, fun _ zs ez => ?_, fun h => (by rw [p1] at h; cases h)⟩
  have ez : zs = rows.set M.toNat (kd (meet x6 (-1) (-1))) := ez
  have hzl : zs.length = rows.length := by rw [ez]; simp
  have hzk : KLs zs := by rw [ez]; exact kls_set hkl _ _
  have hzg : getV zs M = kd (meet x6 (-1) (-1)) := by rw [ez]; exact getV_set hMn
  have sZ : SOk (arrF 16 f) zs [] := sokR f hzk (by rw [hzl, hlen]; omega)
  have p2 : putOk true zs M = true := by rw [put_at hM.1 (by rw [hzl]; exact hMl), hzg, k1 hk]
  refine ⟨rfl, sZ, fun _ zs2 ez2 => ?_, fun h => (by rw [p2] at h; cases h)⟩
  have ez2 : zs2 = zs.set M.toNat (kd (meet 256 7 (-1))) := ez2
  have hz2l : zs2.length = rows.length := by rw [ez2]; simp [hzl]
  have hz2k : KLs zs2 := by rw [ez2]; exact kls_set hzk _ _
  have hz2g : getV zs2 M = kd (meet 256 7 (-1)) := by rw [ez2]; exact getV_set (by rw [hzl]; exact hMn)
  have p3 : putOk true zs2 M = false := by rw [put_at hM.1 (by rw [hz2l]; exact hMl), hz2g, k6]
  refine ⟨rfl, sokR f hz2k (by rw [hz2l, hlen]; omega), fun h => (by rw [p3] at h; cases h), fun _ => ?_⟩
  have p4 : putOk true rows N = false := by
    have : slotB true rows N = false := slot_no (by rw [hlen]; omega)
    simp [putOk, this]
  refine ⟨rfl, rfl, sR, fun h => (by rw [p4] at h; cases h), fun _ => ?_⟩
  have q1 : srcK true zs M = (x6, -1) := by rw [src_at hM.1 (by rw [hzl]; exact hMl), hzg, k2 hk]
  have q2 : srcK true rows M = (0, -1) := by rw [src_at hM.1 hMl, hg, k5]
  refine ⟨rfl, sZ, fun q eq => ⟨rfl, rfl, sR, fun q' eq' => fun x1 e1 => ?_⟩⟩
  rw [q1] at eq; rw [q2] at eq'
  subst eq eq'
  have e1 : x1 = true := e1
  subst e1
  refine ⟨fun _ => ⟨fun _ => ⟨fun _ => fun x2 e2 => ?_, fun h => (by cases h)⟩, fun h => (by cases h)⟩, fun h => (by cases h)⟩
  have e2 : x2 = true := e2
  subst e2
  refine ⟨fun _ => fun x3 e3 => ?_, fun h => (by cases h)⟩
  have e3 : x3 = true := e3
  subst e3
  refine ⟨fun _ => ⟨se25, fun _ => fun x4 e4 => ?_⟩, fun h => (by cases h)⟩
  have e4 : x4 = true := by rw [e4]; simp
  subst e4
  refine ⟨fun _ => fun x5 e5 => ?_, fun h => (by cases h)⟩
  have e5 : x5 = true := e5
  subst e5
  refine ⟨fun _ => ⟨sZ, fun x7 e7 x8 e8 => ?_⟩, fun h => (by cases h)⟩
  have r1 : readyB true zs = (N == 1) := by rw [ez, er]; exact ready_set hM.1 hM.2 hk
  have e8 : x8 = true := by rw [e8, r1, e7]; simp
  subst e8
  refine ⟨fun _ => ⟨rfl, sR, fun x9 e9 => ?_⟩, fun h => (by cases h)⟩
  have r2 : readyB true rows = false := by rw [er]; exact ready_rep (by omega)
  have e9 : x9 = true := by rw [e9, r2]; rfl
  subst e9
  exact ⟨fun _ => rfl, fun h => (by cases h)⟩
end GoL
