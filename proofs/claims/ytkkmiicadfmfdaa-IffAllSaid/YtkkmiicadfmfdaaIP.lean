/- A part of the proof: a logic for programs of this kind, proved sound over the model; contracts of functions; plain laws. -/
import Derived.Test.YtkkmiicadfmfdaaIN
import Derived.Test.YtkkmiicadfmfdaaIA
set_option linter.all false
open Go Go.Proofs
namespace GoL
set_option linter.unusedVariables false
set_option linter.unusedSimpArgs false
set_option maxRecDepth 8000
theorem sp21_ok : SpOk Try.prog sp21 := spNil_ok
theorem c21 (n : Int) (hp : 0 ≤ n ∧ n ≤ 4611686018427387904) : CallP Try.prog 21 [.int .i64 n] (.int .i64 (fillI n)) :=
  call_plain sp21_ok Try.func21 Try.ntmps21 (by kernel_rfl) ((n21 n _).mpr fun x hx y hy => by rw [fill_eq hp hx hy])
theorem sp14_ok : SpOk Try.prog sp14 := spNil_ok
theorem c14 (x n : Int) (hp : n ≠ 0) : CallP Try.prog 14 [.int .i64 x, .int .i64 n] (.int .i64 (place x n)) := by
  refine call_plain sp14_ok Try.func14 Try.ntmps14 (by kernel_rfl) ((n14 x n _).mpr ⟨⟨rfl, hp⟩, fun _ y hy b hb => ?_⟩)
  subst hy; subst hb
  unfold place
  refine ⟨fun h z hz => ?_, fun h => ?_⟩
  · rw [h, hz]; rfl
  · rw [h]; rfl
theorem sp23_ok : SpOk Try.prog sp23 := spNil_ok
theorem sp24_ok : SpOk Try.prog sp24 := spNil_ok
theorem c23 (vs : List V) (hp : BLs vs ∧ 4 ≤ vs.length) : CallP Try.prog 23 [.list false vs] (.int .i64 (numS vs)) := by
  obtain ⟨h, hl⟩ := hp
  obtain ⟨e0, a0, b0⟩ := byte_at h (i := 0) (by omega)
  obtain ⟨e1, a1, b1⟩ := byte_at h (i := 1) (by omega)
  obtain ⟨e2, a2, b2⟩ := byte_at h (i := 2) (by omega)
  obtain ⟨e3, a3, b3⟩ := byte_at h (i := 3) (by omega)
  refine call_plain sp23_ok Try.func23 Try.ntmps23 (by kernel_rfl) ((n23 vs _).mpr ⟨by decide, by omega, _, e0, rfl, fun x1 h1 => ⟨by decide, fun x3 h3 => ⟨by decide, by omega, _, e1, rfl, fun x6 h6 => ⟨by decide, fun x8 h8 x10 h10 => ⟨by decide, by omega, _, e2, rfl, fun x13 h13 => ⟨by decide, fun x15 h15 x17 h17 => ⟨by decide, by omega, _, e3, rfl, fun x20 h20 x22 h22 => ?_⟩⟩⟩⟩⟩⟩⟩)
  rw [IntKind.wrap_i64] at h1 h3 h6 h8 h13 h15 h20
  obtain ⟨a, ea⟩ : ∃ a : Nat, bAt vs 0 = a := ⟨_, rfl⟩
  obtain ⟨b, eb⟩ : ∃ a : Nat, bAt vs 1 = a := ⟨_, rfl⟩
  obtain ⟨c, ec⟩ : ∃ a : Nat, bAt vs 2 = a := ⟨_, rfl⟩
  obtain ⟨d, ed⟩ : ∃ a : Nat, bAt vs 3 = a := ⟨_, rfl⟩
  rw [ea] at a0 b0 h1; rw [eb] at a1 b1 h6; rw [ec] at a2 b2 h13; rw [ed] at a3 b3 h20
  have g3 : x3 = ((a * 16777216 : Nat) : Int) := by omega
  have g8 : x8 = ((b * 65536 : Nat) : Int) := by omega
  have g15 : x15 = ((c * 256 : Nat) : Int) := by omega
  have g20 : x20 = ((d : Nat) : Int) := by omega
  rw [h22, h17, h10, g3, g8, g15, g20, or_num (by omega) (by omega) (by omega) (by omega)]
  unfold numS
  rw [ea, eb, ec, ed]
  congr 1
theorem c24 (vs : List V) (hp : BLs vs ∧ 4 ≤ vs.length) : CallP Try.prog 24 [.list false vs] (.int .i64 (numS vs)) := by
  obtain ⟨h, hl⟩ := hp
  obtain ⟨e0, a0, b0⟩ := byte_at h (i := 0) (by omega)
  obtain ⟨e1, a1, b1⟩ := byte_at h (i := 1) (by omega)
  obtain ⟨e2, a2, b2⟩ := byte_at h (i := 2) (by omega)
  obtain ⟨e3, a3, b3⟩ := byte_at h (i := 3) (by omega)
  refine call_plain sp24_ok Try.func24 Try.ntmps24 (by kernel_rfl) ((n24 vs _).mpr ⟨by decide, by omega, _, e0, rfl, fun x1 h1 => ⟨by decide, fun x3 h3 => ⟨by decide, by omega, _, e1, rfl, fun x6 h6 => ⟨by decide, fun x8 h8 x10 h10 => ⟨by decide, by omega, _, e2, rfl, fun x13 h13 => ⟨by decide, fun x15 h15 x17 h17 => ⟨by decide, by omega, _, e3, rfl, fun x20 h20 x22 h22 => ?_⟩⟩⟩⟩⟩⟩⟩)
  rw [IntKind.wrap_i64] at h1 h3 h6 h8 h10 h13 h15 h17 h20 h22
  unfold numS
  generalize bAt vs 0 = a at *
  generalize bAt vs 1 = b at *
  generalize bAt vs 2 = c at *
  generalize bAt vs 3 = d at *
  congr 1
  omega
theorem sp27_ok : SpOk Try.prog sp27 := spNil_ok
theorem c27 (n : Int) (hp : 0 ≤ n ∧ n < 4294967296) : CallP Try.prog 27 [.int .i64 n] (.list false (fourV n)) := by
  refine call_plain sp27_ok Try.func27 Try.ntmps27 (by kernel_rfl) ((n27 n _).mpr ⟨by decide, fun _ x1 h1 => ⟨rfl, fun _ x4 h4 => ⟨by decide, fun _ x7 h7 => ⟨rfl, fun _ x10 h10 => ⟨by decide, fun _ x13 h13 => ⟨rfl, fun _ x16 h16 => ⟨rfl, fun _ x19 h19 => ⟨rfl, ?_⟩⟩⟩⟩⟩⟩⟩⟩)
  subst h1; subst h4; subst h7; subst h10; subst h13; subst h16; subst h19
  rfl
theorem sp13_ok : SpOk Try.prog sp13 := spNil_ok
theorem c13 (vs : List V) (hp : BLs vs ∧ vs.length ≤ 1000000) : CallP Try.prog 13 [.list false vs] (.list false vs) :=
  call_plain sp13_ok Try.func13 Try.ntmps13 (by kernel_rfl) ((n13 vs _).mpr ⟨⟨⟨rfl, trivial⟩, sz_byte hp.1, rfl, rfl, 1, rfl, by have := hp.2; omega, by have := hp.2; omega⟩, fun _ => ⟨rfl, rfl⟩⟩)
theorem sp29_ok : SpOk Try.prog sp29 := spNil_ok
theorem sp31_ok : SpOk Try.prog sp31 := spNil_ok
theorem c29 (n d x : List UInt8) : CallP Try.prog 29 [.agg [.str n, .str d], .dptr (.str x)] (.bool (n == x)) :=
  call_plain sp29_ok Try.func29 Try.ntmps29 (by kernel_rfl) ((n29 n d x _).mpr fun y hy => by rw [hy])
theorem c31 (n d x : List UInt8) : CallP Try.prog 31 [.agg [.str n, .str d], .dptr (.str x)] (.bool (n == x)) :=
  call_plain sp31_ok Try.func31 Try.ntmps31 (by kernel_rfl) ((n31 n d x _).mpr fun y hy => by rw [hy])
theorem b21_ok (args : List V) (k : V → Prop) (h : b21 args k) : ∃ r, CallP Try.prog 21 args r ∧ k r := by
  unfold b21 at h
  split at h
  · exact ⟨_, c21 _ h.1, h.2 _ rfl⟩
  · exact h.elim
theorem b14_ok (args : List V) (k : V → Prop) (h : b14 args k) : ∃ r, CallP Try.prog 14 args r ∧ k r := by
  unfold b14 at h
  split at h
  · exact ⟨_, c14 _ _ h.1, h.2⟩
  · exact h.elim
theorem b23_ok (args : List V) (k : V → Prop) (h : b23 args k) : ∃ r, CallP Try.prog 23 args r ∧ k r := by
  unfold b23 at h
  split at h
  · exact ⟨_, c23 _ h.1, h.2 _ rfl⟩
  · exact h.elim
theorem b24_ok (args : List V) (k : V → Prop) (h : b24 args k) : ∃ r, CallP Try.prog 24 args r ∧ k r := by
  unfold b24 at h
  split at h
  · exact ⟨_, c24 _ h.1, h.2 _ rfl⟩
  · exact h.elim
theorem b27_ok (args : List V) (k : V → Prop) (h : b27 args k) : ∃ r, CallP Try.prog 27 args r ∧ k r := by
  unfold b27 at h
  split at h
  · exact ⟨_, c27 _ h.1, h.2⟩
  · exact h.elim
theorem b13_ok (args : List V) (k : V → Prop) (h : b13 args k) : ∃ r, CallP Try.prog 13 args r ∧ k r := by
  unfold b13 at h
  split at h
  · exact ⟨_, c13 _ h.1, h.2⟩
  · exact h.elim
theorem b29_ok (args : List V) (k : V → Prop) (h : b29 args k) : ∃ r, CallP Try.prog 29 args r ∧ k r := by
  unfold b29 at h
  split at h
  · exact ⟨_, c29 _ _ _ , h⟩
  · exact h.elim
theorem b31_ok (args : List V) (k : V → Prop) (h : b31 args k) : ∃ r, CallP Try.prog 31 args r ∧ k r := by
  unfold b31 at h
  split at h
  · exact ⟨_, c31 _ _ _ , h⟩
  · exact h.elim
theorem c22a (vs : List V) (n : Int) (hv : BLs vs) (hl : vs.length ≤ 1000000000) : CallH Try.prog 22 [.list true vs, .int .i64 n] (lkB []) (.sl 1014 (vs.length + 4)) (lkB [(1014, ⟨some 5, false, .agg (vs ++ fourV n)⟩)]) := by
  refine callH_go (η := []) (ids := [1014]) (ks := [⟨some 5, false, .agg (vs ++ fourV n)⟩]) (hint := none) (Ls := noLs) (Sp := sp22) (hints := noHint) (prs := prsOf []) spNil_ok Try.func22 Try.ntmps22 (by kernel_rfl) (noLoop_ok (by kernel_rfl))
    ((n22a vs n _ _).mpr ⟨by decide, fun _ x1 h1 => ⟨rfl, fun _ x4 h4 => ⟨by decide, fun _ x7 h7 => ⟨rfl, fun _ x10 h10 => ⟨by decide, fun _ x13 h13 => ⟨rfl, fun _ x16 h16 => ⟨rfl, fun _ x19 h19 => ?_⟩⟩⟩⟩⟩⟩⟩)
  subst h1; subst h4; subst h7; subst h10; subst h13; subst h16; subst h19
  refine ⟨⟨⟨rfl, rfl⟩, by simp, fun v hv' => ?_, rfl, rfl, 1, rfl, by show (vs.length + 4) * 1 ≤ _; omega, by show vs.length + 4 ≤ _; omega⟩, fun _ => ⟨rfl, rfl⟩⟩
  rcases List.mem_append.1 hv' with h | h
  · exact sz_byte hv v h
  · exact sz_byte (BLs_four n) v h
theorem c22b (vs : List V) (n : Int) (hv : BLs vs) (hl : vs.length ≤ 1000000000) : CallH Try.prog 22 [.sl 0 vs.length, .int .i64 n] (lkB [(0, ⟨some 5, false, .agg vs⟩)]) (.sl 0 (vs.length + 4)) (lkB [(0, ⟨some 5, false, .agg (vs ++ fourV n)⟩)]) := by
  refine callH_go (η := [(0, ⟨some 5, false, .agg vs⟩)]) (ids := [0]) (ks := [⟨some 5, false, .agg (vs ++ fourV n)⟩]) (hint := none) (Ls := noLs) (Sp := sp22) (hints := noHint) (prs := prsOf []) spNil_ok Try.func22 Try.ntmps22 (by kernel_rfl) (noLoop_ok (by kernel_rfl))
    ((n22b vs n _ _).mpr ⟨by decide, fun _ x1 h1 => ⟨rfl, fun _ x4 h4 => ⟨by decide, fun _ x7 h7 => ⟨rfl, fun _ x10 h10 => ⟨by decide, fun _ x13 h13 => ⟨rfl, fun _ x16 h16 => ⟨rfl, fun _ x19 h19 => ?_⟩⟩⟩⟩⟩⟩⟩)
  subst h1; subst h4; subst h7; subst h10; subst h13; subst h16; subst h19
  refine ⟨⟨rfl, rfl, ⟨rfl, rfl⟩, fun v hv' => ?_, rfl, rfl, 1, rfl, by show (vs.length + 4) * 1 ≤ _; omega, by show vs.length + 4 ≤ _; omega⟩, fun _ => ⟨rfl, rfl⟩⟩
  exact sz_byte (BLs_four n) v hv'
theorem h22_ok : HOk Try.prog 22 h22 := by
  intro hvc rest H1 id k h
  unfold h22 at h
  split at h
  · rename_i vs n
    obtain ⟨⟨h1, h2⟩, h3⟩ := h
    exact ⟨_, _, hsem_newH (m := 1014) (hd := [.list true vs]) (fun u hu => by simp at hu; subst hu; rfl) rfl (fun j hj => by simpa [V.idsB] using hj) (c22a vs n h1 h2), h3⟩
  · rename_i c len n
    split at h
    · rename_i rows e
      obtain ⟨⟨rfl, h1, h2⟩, h3⟩ := h
      have := hsem_own (f := 22) (c := c) (E := 5) (rows := rows) (rows' := rows ++ fourV n) (rest := [.int .i64 n]) (fz := false) (H1 := H1) (id := id) e (by
        have h4 := c22b rows n h1 h2
        have e4 : (rows ++ fourV n).length = rows.length + 4 := by simp [fourV]
        rw [e4]; exact h4)
      have e4 : (rows ++ fourV n).length = rows.length + 4 := by simp [fourV]
      rw [e4] at this
      exact ⟨_, _, this, h3⟩
    · exact h.elim
  · exact h.elim
end GoL
