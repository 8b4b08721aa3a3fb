/- A part of the proof: a logic for programs of this kind, proved sound over the model; contracts of functions; plain laws. -/
import Derived.Test.YtjnagpmhkpkngaaFN
import Derived.Test.YtjnagpmhkpkngaaEP
set_option linter.all false
open Go Go.Proofs
namespace GoL
set_option linter.unusedVariables false
set_option linter.unusedSimpArgs false
set_option maxRecDepth 8000
theorem t28mk {t n : Int} (ht : -9223372036854775808 ≤ t ∧ t ≤ 9223372036854775807) (hn : -9223372036854775808 ≤ n ∧ n ≤ 9223372036854775807) : T28 (.agg [.int .i64 t, .int .i64 n, .list false []]) := by
  refine Typed.struct Try.underlying28 rfl fun i f v hf hv => ?_
  match i with
  | 0 => cases hf; cases hv; exact Typed.int Try.underlying3 ht
  | 1 => cases hf; cases hv; exact Typed.int Try.underlying3 hn
  | 2 => cases hf; cases hv; exact Typed.list Try.underlying26 (by simp) (fun v h => by cases h)
  | i + 3 => cases hv
theorem sp31h_ok : SpOk Try.prog (sp31 fun l => TyL l ∧ Few l) := spAdd_ok b23_ok spNil_ok
theorem sp23h_ok : SpOk Try.prog (sp23 fun l => TyL l ∧ Few l) := by
  refine spAdd_ok (fun args k h => ?_) spNil_ok
  unfold b31 at h
  split at h
  · rename_i k t n l
    exact ⟨_, call_plain sp31h_ok Try.func31 Try.ntmps31 (by kernel_rfl) ((n31 _ t n l _).mpr ⟨h.1, rfl⟩), h.2⟩
  · exact h.elim
theorem c23H (xs : List V) (ht : TyL xs) (hf : Few xs) : CallH Try.prog 23 [.list false xs] (lkB []) (.sl 1000 xs.length) (lkB [(1000, ⟨some 28, false, .agg xs⟩)]) := by
  have hS : ∀ u ∈ xs, TyL (kidsV u) ∧ Few (kidsV u) := fun u hu => ⟨kids_ty (ht u hu), (few_inv hf).2 u hu⟩
  refine callH_go (η := []) (ids := [1000]) (ks := [⟨some 28, false, .agg xs⟩]) (hint := none) sp23h_ok Try.func23 Try.ntmps23 (by kernel_rfl) (loopsOf_ok ?_) ((n23h _ xs xs _ _).mpr ⟨rfl, rfl, rfl, rfl⟩)
  have e : loopsOf 0 (bodyOf Try.f23) = [lcode Try.f23 0] := by kernel_rfl
  rw [e]
  intro p hp
  simp only [List.mem_cons, List.not_mem_nil, or_false] at hp
  subst hp
  exact lsAdd_hit (lp23 sp23h_ok ht hS (few_inv hf).1)
theorem h23_ok : HOk Try.prog 23 h23 := by
  intro hvc rest H1 id k h
  unfold h23 at h
  split at h
  · rename_i xs
    exact ⟨_, _, hsem_new (m := 1000) rfl (fun j hj => by simpa [V.idsB] using hj) (c23H xs h.1.1 h.1.2), h.2⟩
  · exact h.elim
theorem sp6_ok : SpOk Try.prog sp6 := shAdd_ok h23_ok (spAdd_ok b22_ok (spAdd_ok b14_ok (spAdd_ok b19g_ok (spAdd_ok b24_ok (spAdd_ok b25g_ok (spAdd_ok b18_ok (spAdd_ok b27_ok spNil_ok)))))))
theorem sz28 {v : V} (h : T28 v) : V.sz v = 3 := by
  obtain ⟨t, n, l, rfl, _⟩ := ty28 h
  rfl
theorem place_in {y n : Int} (h : 0 < n) (hn : n ≤ 9223372036854775807) : 0 ≤ place y n ∧ place y n < n := by
  unfold place
  have h1 := Int.tmod_lt_of_pos y h
  have h2 := Int.lt_tmod_of_pos y h
  by_cases h0 : y.tmod n < 0
  · simp only [h0, decide_true, if_true]
    rw [IntKind.wrap_i64]
    omega
  · simp only [h0, decide_false, if_false, Bool.false_eq_true]
    omega
theorem thr_false (op : Int) (xs : List V) : thr false op xs = false := by simp [thr]
theorem fits8 {op : Int} {xs : List V} {j : Nat} {e : V} (hj : j < xs.length) (ht : tagV e = 8) : fitsG op (xs.set j e) = false := by
  cases h : fitsG op (xs.set j e) with
  | false => rfl
  | true =>
    exfalso
    unfold fitsG at h
    split at h
    · cases h
    · split at h
      · cases h
      · split at h
        · cases h
        · have hA := dec_iff.1 h
          rw [all_one] at hA
          have := hA (j : Int) (by omega) (by simpa using hj)
          unfold okG at this
          have hg : getV (xs.set j e) (j : Int) = e := by
            unfold getV
            rw [List.getD_eq_getElem?_getD, Int.toNat_natCast, List.getElem?_set_self hj]
            rfl
          rw [hg, ht] at this
          unfold letO bigO fit1 plainB at this
          simp at this
theorem c6 (op : Int) (xs : List V) (x y : Int) (ht : TyL xs) : CallP Try.prog 6 [.agg [.int .i64 op, .list false xs], .int .i64 x, .int .i64 y] (.bool true) := by
  refine call_plain sp6_ok Try.func6 Try.ntmps6 (by kernel_rfl) ((n6 op xs x y _).mpr ⟨ht, ?_⟩)
  intro a ha
  refine ⟨fun _ => rfl, fun h => ?_⟩
  have hf : fewV xs 3 = true := by rw [ha] at h; simpa using h
  have hfew := few_of ht hf
  have hlen := (few_inv hfew).1
  refine ⟨ht, fun b hb => ⟨fun _ => rfl, fun h2 => ?_⟩⟩
  have hR : fitsR op xs = true := by rw [hb] at h2; simpa using h2
  have hG : fitsG op xs = true := by rw [fits_eq]; exact hR
  have hL := fitsG_len hG
  have hty0 : ∀ n : Int, n = 0 ∨ n = 8 → T28 (.agg [.int .i64 n, .int .i64 0, .list false []]) := fun n hn => t28mk (by omega) (by omega)
  refine ⟨⟨ht, hfew⟩, by decide, fun c hc => ⟨fun hc1 => ?_, fun hc1 => ?_⟩⟩
  · have hy : fitsG op (xs ++ [.agg [.int .i64 0, .int .i64 0, .list false []]]) = false := by
      cases h : fitsG op (xs ++ [.agg [.int .i64 0, .int .i64 0, .list false []]]) with
      | false => rfl
      | true => have := fitsG_len h; simp at this; omega
    have htt : TyL (xs ++ [.agg [.int .i64 0, .int .i64 0, .list false []]]) := by
      intro u hu
      rcases List.mem_append.1 hu with hu | hu
      · exact ht u hu
      · simp at hu; subst hu; exact hty0 0 (.inl rfl)
    refine ⟨⟨rfl, rfl, ⟨rfl, trivial⟩, fun v hv => ?_, rfl, rfl, 40, rfl, ?_, ?_⟩, ht, fun _ => ⟨?_, htt, fun x21 h21 => ?_⟩, fun h => ?_⟩
    · cases hv with
      | head => rfl
      | tail _ h => cases h
    · show (xs.length + 1) * 40 ≤ 140737488355328
      omega
    · show xs.length + 1 ≤ 9223372036854775807
      omega
    · simp
    · rw [hy] at h21
      subst h21
      refine ⟨fun _ => ⟨by simp, htt, fun z hz => ?_⟩, fun h => by cases h⟩
      rw [hy, thr_false] at hz
      subst hz
      exact ⟨fun _ => rfl, fun h => by cases h⟩
    · rw [hG] at h; cases h
  · intro d hd
    refine ⟨fun hd1 => ⟨rfl, fun hle n hn => ?_⟩, fun hd1 => ⟨rfl, fun hle n hn => ?_⟩⟩
    · subst hn
      intro e he
      refine ⟨fun _ => rfl, fun he1 => ?_⟩
      rw [he1] at he
      have hne : xs.length ≠ 0 := by
        intro h0
        rw [h0] at he
        simp at he
      refine ⟨rfl, fun _ n hn m hm => ?_⟩
      subst hn
      have hm' : m = (xs.length : Int) - 1 := by rw [hm, IntKind.wrap_i64]; omega
      subst hm'
      refine ⟨⟨rfl, rfl, trivial, trivial, trivial, fun h => absurd rfl h, by decide, by show (0 : Int) ≤ _; omega, by omega, rfl, fun v hv => sz28 (ht v hv)⟩, fun _ ys hys => ?_⟩
      have hy : fitsG op ys = false := by
        cases h : fitsG op ys with
        | false => rfl
        | true =>
          have h1 := fitsG_len h
          rw [hys, List.length_take] at h1
          have : ((xs.length : Int) - 1 - Int.ofNat 0).toNat = xs.length - 1 := by show ((xs.length : Int) - 1 - 0).toNat = _; omega
          omega
      have htt : TyL ys := fun u hu => ht u (by rw [hys] at hu; exact List.mem_of_mem_take hu)
      refine ⟨ht, fun _ => ⟨htt, fun x21 h21 => ?_⟩, fun h => by rw [hG] at h; cases h⟩
      rw [hy] at h21
      subst h21
      refine ⟨fun _ => ⟨htt, fun z hz => ?_⟩, fun h => by cases h⟩
      rw [hy, thr_false] at hz
      subst hz
      exact ⟨fun _ => rfl, fun h => by cases h⟩
    · subst hn
      intro e he
      refine ⟨fun _ => rfl, fun he1 => ?_⟩
      rw [he1] at he
      have hne : xs.length ≠ 0 := by
        intro h0
        rw [h0] at he
        simp at he
      refine ⟨rfl, fun n hn => ?_⟩
      subst hn
      obtain ⟨p0, p1⟩ := place_in (y := y) (n := (xs.length : Int)) (by omega) (by omega)
      generalize place y (xs.length : Int) = j at p0 p1
      have hj : j.toNat < xs.length := by omega
      have hsub : (V.agg xs).sub [j.toNat] = some xs[j.toNat] := by simp [V.sub, hj]
      have hoff : (V.agg xs).off [j.toNat] = j.toNat * 3 := by
        have h1 : V.szs (xs.take j.toNat) = (xs.take j.toNat).length * 3 := szs_const fun v hv => sz28 (ht v (List.mem_of_mem_take hv))
        simp only [V.off, List.getElem?_eq_getElem hj, h1, List.length_take]
        omega
      have hupd : V.upd (.agg [.int .i64 8, .int .i64 0, .list false []]) (.agg xs) [j.toNat] = .agg (xs.set j.toNat (.agg [.int .i64 8, .int .i64 0, .list false []])) := by
        simp only [V.upd, List.getElem?_eq_getElem hj]
      have hs := sz28 (ht xs[j.toNat] (List.getElem_mem _))
      have hy : fitsG op (xs.set j.toNat (.agg [.int .i64 8, .int .i64 0, .list false []])) = false := fits8 hj rfl
      have htt : TyL (xs.set j.toNat (.agg [.int .i64 8, .int .i64 0, .list false []])) := by
        intro u hu
        rcases List.mem_or_eq_of_mem_set hu with hu | rfl
        · exact ht u hu
        · exact hty0 8 (.inr rfl)
      refine ⟨by omega, rfl, p0, p1, rfl, rfl, by simp, hoff, ⟨_, hsub, by rw [hs]; rfl, by rw [hs]; rfl⟩, _, hupd.symm, ht, fun _ => ⟨by simp, htt, fun x21 h21 => ?_⟩, fun h => by rw [hG] at h; cases h⟩
      rw [hy] at h21
      subst h21
      refine ⟨fun _ => ⟨by simp, htt, fun z hz => ?_⟩, fun h => by cases h⟩
      rw [hy, thr_false] at hz
      subst hz
      exact ⟨fun _ => rfl, fun h => by cases h⟩
end GoL
