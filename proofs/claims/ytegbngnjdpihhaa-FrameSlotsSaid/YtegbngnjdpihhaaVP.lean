/- A part of the proof: a logic for programs of this kind, proved sound over the model; contracts of functions; plain laws. -/
import Derived.Test.YtegbngnjdpihhaaVN
import Derived.Test.YtegbngnjdpihhaaRP
set_option linter.all false
open Go Go.Proofs
namespace GoL
set_option linter.unusedVariables false
set_option linter.unusedSimpArgs false
set_option maxRecDepth 8000
attribute [local irreducible] wC
theorem arr_ids (f : Nat → Int × Int) : V.idsBs (arrF 16 f) = [] := rfl
theorem arr_ren (ρ : Nat → Nat) (f : Nat → Int × Int) : V.rens ρ (arrF 16 f) = arrF 16 f := rfl
theorem c18H (f : Nat → Int × Int) (fr : Bool) (ys ts : List V) (rm : Int) (h1 : KLs ys) (h2 : ys.length ≤ 1000) (h3 : NLs ts) (h4 : ts.length ≤ 1000) : CallH Try.prog 18 [.agg [.agg (arrF 16 f), .bool fr, .list false ys, .int .i64 rm, .list false ts]] (lkB []) (.agg [.agg (arrF 16 f), .bool fr, .sl 1005 ys.length, .int .i64 rm, .list false ts]) (lkB [(1005, ⟨some 25, false, .agg ys⟩)]) := by
  refine callHc_go (η := []) (ids := [1005]) (ks := [⟨some 25, false, .agg ys⟩]) (hint := none) (Ls := noLs) (hints := hintOf [(6999, 1014)]) (prs := prsOf []) (N := 26) sp18_ok Try.func18 Try.ntmps18 (by kernel_rfl) (noLoop_ok (by kernel_rfl)) ?_
  refine (n18h f fr ys ts rm _ _).mpr ?_
  intro _ x1 e1; subst e1
  refine ⟨⟨by omega, by omega, by omega, by omega, rfl⟩, fun _ => ⟨⟨by simp, rfl, rfl, trivial, kls_sz h1, (fun _ => by simp), (fun _ => by simp)⟩, fun _ x9 _ _ x12 e12 => ?_⟩⟩
  subst e12
  refine ⟨⟨by omega, by omega, by omega, by omega, rfl⟩, fun _ => ⟨⟨by simp, rfl, rfl, trivial, nls_sz h3, (fun _ => by simp), (fun _ => by simp)⟩, fun _ x20 _ => ⟨?_, ?_, ?_⟩⟩⟩
  · rw [cpy]; simp
  · rw [cpy]; simp
  · rw [cpy]
theorem h18_ok : HOk Try.prog 18 h18 := by
  intro hvc rest H1 id k h
  unfold h18 at h
  split at h
  · rename_i X fr ys rm ts
    obtain ⟨⟨⟨f, rfl⟩, h1, h2, h3, h4⟩, hk⟩ := h
    exact ⟨_, _, hsem_new (m := 1005) rfl (fun j hj => by simpa [V.idsB, V.idsBs, arr_ids] using hj) (c18H f fr ys ts rm h1 h2 h3 h4), hk ys rfl⟩
  · exact h.elim
theorem c6H (n : Int) : CallH Try.prog 6 [.int .i64 n] (lkB []) (.agg [.agg (arrF 16 (entF n)), .bool false, .nils, .int .i64 0, .nils]) (lkB []) := by
  refine callH_go (η := []) (ids := []) (ks := []) (hint := none) (Ls := ls6) (hints := hintOf [(5004, 26), (7004, 26)]) (prs := prsOf []) (N := 21) sp6_ok Try.func6 Try.ntmps6 (by kernel_rfl) (loopsOf_ok fun p hp => ?_) ((n6h n _ _).mpr ⟨rfl, rfl, rfl, ⟨zF, rfl⟩, rfl, rfl⟩)
  have e : loopsOf 0 (bodyOf Try.f6) = [lcode Try.f6 0] := by kernel_rfl
  rw [e] at hp
  simp only [List.mem_cons, List.not_mem_nil, or_false] at hp
  subst hp
  exact lsAdd_hit lp6
theorem h6_ok : HOk Try.prog 6 h6 := by
  intro hvc rest H1 id k h
  unfold h6 at h
  split at h
  · exact ⟨_, _, hsem_none rfl (c6H _), h _ rfl⟩
  · exact h.elim
theorem sp7_ok : SpOk Try.prog sp7 := shAdd_ok h18_ok (spAdd_ok b20_ok (spAdd_ok b19_ok spNil_ok))
theorem sub_one {ys : List V} {n : Nat} (h : n < ys.length) : subQ (.agg ys) [n] = some ys[n] := by
  simp [subQ, V.sub, h]
theorem getV_el {ys : List V} {n : Int} (h0 : 0 ≤ n) (h1 : n < ys.length) : getV ys n = ys[n.toNat]'(by omega) := by
  have h : n.toNat < ys.length := by omega
  simp [getV, List.getD, h]
theorem off_one {ys : List V} (hy : KLs ys) {n : Nat} (h : n < ys.length) : offQ (.agg ys) [n] = n * 2 := by
  have e : ys[n]? = some ys[n] := by simp [h]
  simp only [offQ, V.off, e]
  rw [szs_const (z := 2) (fun v hv => kls_sz hy v (List.mem_of_mem_take hv)), List.length_take]
  omega
theorem upd_one {ys : List V} {x : V} {n : Nat} (h : n < ys.length) : updQ x (.agg ys) [n] = .agg (ys.set n x) := by
  have e : ys[n]? = some ys[n] := by simp [h]
  simp only [updQ, V.upd, e]
theorem slotB_iff {fr : Bool} {ys : List V} {n : Int} (h : slotB fr ys n = true) : fr = true ∧ 0 ≤ n ∧ n < ys.length := by
  unfold slotB at h
  cases fr with
  | false => cases h
  | true =>
    simp only [if_true] at h
    split at h
    · rename_i h1
      exact ⟨rfl, by simpa using h1, by simpa using h⟩
    · cases h
theorem c7 (f : Nat → Int × Int) (fr : Bool) (ys ts : List V) (rm n m a : Int) (ls : List V) (hs : SOk (arrF 16 f) ys ts) : CallP Try.prog 7 [.agg [.agg (arrF 16 f), .bool fr, .list false ys, .int .i64 rm, .list false ts], .agg [.int .i64 4, .int .i64 n, .list false ls], .agg [.int .i64 m, .int .i64 a]]
    (.tup [.agg [.agg (arrF 16 f), .bool fr, .list false (if putOk fr ys n = true then putY ys n m a else ys), .int .i64 rm, .list false ts], .bool (putOk fr ys n)]) := by
  refine call_plain sp7_ok Try.func7 Try.ntmps7 (by kernel_rfl) ((n7 f fr ys ts rm n m a ls _).mpr ?_)
  intro x0 e0
  have e0 : x0 = false := e0
  subst e0
  refine ⟨fun h => (by cases h), fun _ => ?_⟩
  intro x1 e1
  have e1 : x1 = true := e1
  subst e1
  refine ⟨fun _ => ⟨hs, fun h => ?_, fun h => ?_⟩, fun h => (by cases h)⟩
  · obtain ⟨hfr, h0, h1⟩ := slotB_iff h
    obtain ⟨p, q, e⟩ := klsG hs.2.1 h0 h1
    have hok : putOk fr ys n = maskOk (getV ys n) := by simp only [putOk, h, if_true]
    rw [e] at hok
    refine ⟨h0, h1, p, q, e, fun x2 e2 x3 e3 => ⟨fun h3 => ?_, fun h3 => ?_⟩⟩
    · have hp : putOk fr ys n = true := by rw [hok]; simp only [maskOk]; rw [← e2, ← e3]; exact h3
      refine ⟨hs, fun zs ez => ?_⟩
      subst ez
      have hlt : n.toNat < zs.length := by omega
      refine ⟨rfl, h0, h1, rfl, rfl, by simp, off_one hs.2.1 hlt, ⟨_, sub_one hlt, ?_, ?_⟩, zs.set n.toNat _, (upd_one hlt).symm, by simp, ?_⟩
      · exact (kls_sz hs.2.1 _ (List.getElem_mem hlt)).symm
      · exact (kls_sz hs.2.1 _ (List.getElem_mem hlt)).symm
      · rw [hp, if_pos rfl]; rfl
    · have hp : putOk fr ys n = false := by rw [hok]; simp only [maskOk]; rw [← e2, ← e3]; exact h3
      rw [hp, if_neg (by decide)]
  · have hp : putOk fr ys n = false := by simp [putOk, h]
    rw [hp, if_neg (by decide)]
theorem b7_ok (args : List V) (k : V → Prop) (h : b7 args k) : ∃ r, CallP Try.prog 7 args r ∧ k r := by
  unfold b7 at h
  split at h
  · obtain ⟨rfl, hs, h1, h2⟩ := h
    obtain ⟨f, hf⟩ := hs.1
    subst hf
    refine ⟨_, c7 _ _ _ _ _ _ _ _ _ hs, ?_⟩
    split
    · rename_i hp; rw [hp]; exact h1 hp _ rfl
    · rename_i hp
      have hp' := Bool.eq_false_iff.2 hp
      rw [hp']; exact h2 hp'
  · exact h.elim
theorem sp9_ok : SpOk Try.prog sp9 := spAdd_ok b19_ok (spAdd_ok b20_ok (spAdd_ok b17_ok spNil_ok))
theorem c9 (f : Nat → Int × Int) (fr : Bool) (ys ts : List V) (rm n : Int) (ls ms : List V) (hs : SOk (arrF 16 f) ys ts) : CallP Try.prog 9 [.agg [.agg (arrF 16 f), .bool fr, .list false ys, .int .i64 rm, .list false ts], .agg [.int .i64 4, .int .i64 n, .list false ls], .list false ms] (.agg [.int .i64 (srcK fr ys n).1, .int .i64 (srcK fr ys n).2]) := by
  refine call_plain sp9_ok Try.func9 Try.ntmps9 (by kernel_rfl) ((n9 f fr ys ts rm n ls ms _).mpr ?_)
  intro x0 e0
  have e0 : x0 = false := e0
  subst e0
  refine ⟨fun h => (by cases h), fun _ => ?_⟩
  intro x1 e1
  have e1 : x1 = true := e1
  subst e1
  refine ⟨fun _ => ⟨hs, fun h => ?_, fun h => ?_⟩, fun h => (by cases h)⟩
  · obtain ⟨hfr, h0, h1⟩ := slotB_iff h
    obtain ⟨p, q, e⟩ := klsG hs.2.1 h0 h1
    refine ⟨h0, h1, p, q, e, ?_⟩
    have : srcK fr ys n = meet p q (-1) := by simp only [srcK, h, if_true, e, saidV]
    rw [this]
  · have : srcK fr ys n = (0, -1) := by simp [srcK, h]
    rw [this]
theorem b9_ok (args : List V) (k : V → Prop) (h : b9 args k) : ∃ r, CallP Try.prog 9 args r ∧ k r := by
  unfold b9 at h
  split at h
  · obtain ⟨rfl, hs, hk⟩ := h
    obtain ⟨f, hf⟩ := hs.1
    subst hf
    exact ⟨_, c9 _ _ _ _ _ _ _ _ hs, hk _ rfl⟩
  · exact h.elim
theorem sp3_ok : SpOk Try.prog sp3 := shAdd_ok h6_ok (spAdd_ok b5_ok (spAdd_ok b8_ok (spAdd_ok b7_ok (spAdd_ok b9_ok (spAdd_ok b10_ok (spAdd_ok b11_ok spNil_ok))))))
end GoL
