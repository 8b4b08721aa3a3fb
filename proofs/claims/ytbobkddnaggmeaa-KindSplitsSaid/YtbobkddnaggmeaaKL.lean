/- A part of the proof: a logic for programs of this kind, proved sound over the model; contracts of functions; plain laws. -/
import Derived.Test.YtbobkddnaggmeaaKD
set_option linter.all false
set_option linter.unusedSimpArgs false
set_option linter.unusedVariables false
namespace GoL
open Go

/-! plain laws of kinds -/
abbrev W := BitVec 64
abbrev bw (x : Int) : W := BitVec.ofInt 64 x
theorem wrap_nat (b : W) : IntKind.i64.wrap b.toNat = b.toInt := by
  simp only [IntKind.wrap, IntKind.bits, IntKind.signed, BitVec.toInt_eq_toNat_bmod, Int.bmod]
  have := b.isLt
  simp
  split <;> split <;> omega
theorem bits_and (x y : Int) : bits .and .i64 x y = (bw x &&& bw y).toInt := wrap_nat _
theorem bits_or (x y : Int) : bits .or .i64 x y = (bw x ||| bw y).toInt := wrap_nat _
theorem bits_xor (x y : Int) : bits .xor .i64 x y = (bw x ^^^ bw y).toInt := wrap_nat _
theorem bits_andNot (x y : Int) : bits .andNot .i64 x y = (bw x &&& ~~~ bw y).toInt := wrap_nat _
theorem bw_toInt (b : W) : bw b.toInt = b := by simp [bw]
theorem toInt_inj {b c : W} : b.toInt = c.toInt ↔ b = c := BitVec.toInt_inj

theorem KT.ext' {x y : KT} (h1 : x.m = y.m) (h2 : x.a = y.a) : x = y := by cases x; cases y; simp_all

/-- normal values -/
structure Nk (b : W) (a : Int) : Prop where
  h1 : b &&& 511#64 = b
  h2 : b ≠ 16#64 → b ≠ 256#64 → a = -1
  h3 : -1 ≤ a
def mk (b : W) (a : Int) : KT := ⟨b.toInt, a⟩

theorem made_eq (b : W) (a : Int) : made b.toInt a = mk (b &&& 511#64) (if (b &&& 511#64 = 16#64 ∨ b &&& 511#64 = 256#64) ∧ -1 ≤ a then a else -1) := by
  have e16 : (16 : Int) = (16#64 : W).toInt := by decide
  have e256 : (256 : Int) = (256#64 : W).toInt := by decide
  have e511 : bw 511 = 511#64 := by decide
  simp only [made, mk, bits_and, bw_toInt, e511]
  rw [e16, e256]
  simp only [bne_iff_ne, ne_eq, toInt_inj, decide_eq_true_eq]
  by_cases h1 : b &&& 511#64 = 16#64 <;> by_cases h2 : b &&& 511#64 = 256#64 <;> by_cases h3 : a < -1 <;> simp [h1, h2, h3] <;> omega

theorem made_mk {b : W} {a : Int} (h : Nk b a) : made (mk b a).m (mk b a).a = mk b a := by
  show made b.toInt a = _
  rw [made_eq, h.h1]
  congr 1
  split
  · rfl
  · rename_i hn
    have := h.h3
    by_cases h1 : b = 16#64
    · exact absurd ⟨.inl h1, this⟩ hn
    · by_cases h2 : b = 256#64
      · exact absurd ⟨.inr h2, this⟩ hn
      · exact (h.h2 h1 h2).symm

theorem norm_mk (m a : Int) : ∃ b c, norm m a = mk b c ∧ Nk b c := by
  refine ⟨bw m &&& 511#64, (norm m a).a, ?_, ?_⟩
  · apply KT.ext'
    · simp only [norm, mk, bits_and]; rfl
    · rfl
  · have e16 : (16 : Int) = (16#64 : W).toInt := by decide
    have e256 : (256 : Int) = (256#64 : W).toInt := by decide
    have e511 : bw 511 = 511#64 := by decide
    refine ⟨by ext i hi; simp, fun h1 h2 => ?_, ?_⟩
    · simp only [norm, bits_and, e511]
      rw [e16, e256]
      have p1 : ((bw m &&& 511#64).toInt != (16#64 : W).toInt) = true := by rw [bne_iff_ne, ne_eq, toInt_inj]; exact h1
      have p2 : ((bw m &&& 511#64).toInt != (256#64 : W).toInt) = true := by rw [bne_iff_ne, ne_eq, toInt_inj]; exact h2
      rw [if_pos p1, if_pos p2]
    · simp only [norm]
      split
      · split
        · omega
        · split <;> omega
      · split <;> omega

theorem none_mk : made 0 (-1) = mk 0#64 (-1) := by
  have := made_eq 0#64 (-1)
  simpa using this
theorem Nk_none : Nk 0#64 (-1) := ⟨by decide, fun _ _ => rfl, by omega⟩

/-- join of normal values -/
def jn (b : W) (a : Int) (c : W) (d : Int) : KT := if b = 0#64 ∨ c = 0#64 then mk 0#64 (-1) else
  if b ||| c = 16#64 ∨ b ||| c = 256#64 then mk (b ||| c) (if a = d then a else -1) else mk (b ||| c) (-1)

theorem Nk_or {b c : W} {a d : Int} (h : Nk b a) (h' : Nk c d) : (b ||| c) &&& 511#64 = b ||| c := by
  have h1 := h.h1
  have h2 := h'.h1
  conv => rhs; rw [← h1, ← h2]
  ext i hi
  simp only [BitVec.getElem_and, BitVec.getElem_or]
  cases b[i] <;> cases c[i] <;> cases (511#64 : W)[i] <;> rfl

theorem join_mk {b c : W} {a d : Int} (h : Nk b a) (h' : Nk c d) : join (mk b a).m (mk b a).a (mk c d).m (mk c d).a = jn b a c d := by
  have e0 : ∀ {x : W} {y : Int}, Nk x y → (((mk x y).m == (mk 0#64 (-1)).m && (mk x y).a == (mk 0#64 (-1)).a) = true ↔ x = 0#64) := by
    intro x y hx
    simp only [mk, Bool.and_eq_true, beq_iff_eq, toInt_inj]
    refine ⟨fun h => h.1, fun h => ⟨h, hx.h2 (by subst h; decide) (by subst h; decide)⟩⟩
  unfold join jn
  rw [made_mk h, made_mk h', none_mk]
  by_cases hb : b = 0#64
  · rw [if_pos ((e0 h).2 hb), if_pos (.inl hb)]
  · rw [if_neg (fun e => hb ((e0 h).1 e))]
    by_cases hc : c = 0#64
    · rw [if_pos ((e0 h').2 hc), if_pos (.inr hc)]
    · have hbc : ¬(b = 0#64 ∨ c = 0#64) := by simp [hb, hc]
      rw [if_neg (fun e => hc ((e0 h').1 e)), if_neg hbc]
      have : bits .or .i64 (mk b a).m (mk c d).m = (b ||| c).toInt := by simp only [bits_or, mk, bw_toInt]
      rw [this, made_eq, Nk_or h h']
      have ha := h.h3
      have hd := h'.h3
      simp only [mk, beq_iff_eq]
      by_cases e2 : b ||| c = 16#64 ∨ b ||| c = 256#64
      · rw [if_pos e2]
        congr 1
        by_cases hh : a = d
        · rw [if_pos hh, if_pos ⟨e2, ha⟩]
        · rw [if_neg hh, if_pos ⟨e2, by omega⟩]
      · rw [if_neg e2, if_neg (fun e => e2 e.1)]

theorem one_or {b c : W} (j : Nat) (hj : j < 64) (h : b ||| c = BitVec.twoPow 64 j) : b = 0#64 ∨ b = BitVec.twoPow 64 j := by
  by_cases hb : b.getLsbD j = true
  · right
    ext i hi
    have := congrArg (fun x : W => x.getLsbD i) h
    simp only [BitVec.getLsbD_or] at this
    by_cases hij : i = j
    · subst hij; simp_all [BitVec.getLsbD_eq_getElem]
    · simp [BitVec.getLsbD_twoPow, hij, Ne.symm hij] at this ⊢
      simp_all [BitVec.getLsbD_eq_getElem]
  · left
    ext i hi
    have := congrArg (fun x : W => x.getLsbD i) h
    simp only [BitVec.getLsbD_or] at this
    by_cases hij : i = j
    · subst hij; simp_all [BitVec.getLsbD_eq_getElem]
    · simp [BitVec.getLsbD_twoPow, hij, Ne.symm hij] at this ⊢
      simp_all [BitVec.getLsbD_eq_getElem]
theorem or16 {b c : W} (h : b ||| c = 16#64) : b = 0#64 ∨ b = 16#64 := one_or 4 (by omega) h
theorem or256 {b c : W} (h : b ||| c = 256#64) : b = 0#64 ∨ b = 256#64 := one_or 8 (by omega) h

theorem jn_ok {b c : W} {a d : Int} (h : Nk b a) (h' : Nk c d) : ∃ x y, jn b a c d = mk x y ∧ Nk x y := by
  unfold jn
  split
  · exact ⟨_, _, rfl, Nk_none⟩
  · split
    · rename_i e
      refine ⟨_, _, rfl, ⟨Nk_or h h', fun h1 h2 => by simp_all, ?_⟩⟩
      have := h.h3
      split <;> omega
    · exact ⟨_, _, rfl, ⟨Nk_or h h', fun _ _ => rfl, by omega⟩⟩

theorem made0 : made 0 (-1) = ⟨0, -1⟩ := by decide
theorem join_r0 (m a : Int) : join m a 0 (-1) = ⟨0, -1⟩ := by
  unfold join
  rw [made0]
  split
  · rfl
  · rfl
theorem join_l0 (m a : Int) : join 0 (-1) m a = ⟨0, -1⟩ := by
  unfold join
  rw [made0]
  rfl
theorem under_r0 (m a : Int) : under m a 0 (-1) = true := by
  unfold under
  rw [made0]
  rfl
theorem plain0 : plain 0 (-1) = false := by
  unfold plain
  rw [made0]
  rfl
theorem has0 (kd n l : Int) : has 0 (-1) kd n l = false := by
  unfold has
  rw [made0]
  rfl
theorem awake_true : awakeV = true := by decide
theorem mk0 : (⟨0, -1⟩ : KT) = mk 0#64 (-1) := by decide

theorem meet_mk {b : W} {a : Int} (h : Nk b a) (x : Int) : meet (mk b a).m (mk b a).a x = mk (b &&& bw x) (if (b &&& bw x = 16#64 ∨ b &&& bw x = 256#64) then a else -1) := by
  unfold meet
  rw [made_mk h]
  have e : bits .and .i64 (mk b a).m x = (b &&& bw x).toInt := by simp only [bits_and, mk, bw_toInt]
  rw [e, made_eq]
  have e2 : b &&& bw x &&& 511#64 = b &&& bw x := by
    conv => rhs; rw [← h.h1]
    ext i hi
    simp only [BitVec.getElem_and]
    cases b[i] <;> cases (bw x)[i] <;> cases (511#64 : W)[i] <;> rfl
  rw [e2]
  have := h.h3
  have e3 : (mk b a).a = a := rfl
  rw [e3]
  congr 1
  by_cases hh : b &&& bw x = 16#64 ∨ b &&& bw x = 256#64
  · rw [if_pos hh, if_pos ⟨hh, this⟩]
  · rw [if_neg hh, if_neg (fun e => hh e.1)]
theorem meet0 (x : Int) : meet 0 (-1) x = ⟨0, -1⟩ := by
  have := meet_mk Nk_none x
  rw [mk0]
  show meet (mk 0#64 (-1)).m (mk 0#64 (-1)).a x = _
  rw [this]
  simp
theorem bw_not (x : Int) : bw (bits .xor .i64 (-1) x) = ~~~ bw x := by
  rw [bits_xor, bw_toInt]
  have : bw (-1) = BitVec.allOnes 64 := by decide
  rw [this, BitVec.allOnes_xor]
theorem wout_mk {b : W} {a : Int} (h : Nk b a) (x : Int) : wout (mk b a).m (mk b a).a x = mk (b &&& ~~~ bw x) (if (b &&& ~~~ bw x = 16#64 ∨ b &&& ~~~ bw x = 256#64) then a else -1) := by
  unfold wout
  rw [meet_mk h, bw_not]
theorem wout511 {b : W} {a : Int} (h : Nk b a) : wout (mk b a).m (mk b a).a 511 = ⟨0, -1⟩ := by
  rw [wout_mk h, mk0]
  have e : b &&& ~~~ bw 511 = 0#64 := by
    have : bw 511 = 511#64 := by decide
    rw [this]
    conv => lhs; rw [← h.h1]
    ext i hi
    simp only [BitVec.getElem_and, BitVec.getElem_not]
    cases b[i] <;> cases (511#64 : W)[i] <;> simp
  rw [e]
  rfl

def un (b : W) (a : Int) (c : W) (d : Int) : Bool := decide (c = 0#64 ∨ (b ≠ 0#64 ∧ b &&& ~~~ c = 0#64 ∧ (d = -1 ∨ d = a)))
theorem under_mk {b c : W} {a d : Int} (h : Nk b a) (h' : Nk c d) : under (mk b a).m (mk b a).a (mk c d).m (mk c d).a = un b a c d := by
  unfold under un
  rw [made_mk h, made_mk h']
  have e : bits .andNot .i64 (mk b a).m (mk c d).m = (b &&& ~~~ c).toInt := by simp only [bits_andNot, mk, bw_toInt]
  rw [e]
  have z : ∀ x : W, (x.toInt == 0) = decide (x = 0#64) := fun x => by
    have : (0 : Int) = (0#64 : W).toInt := by decide
    rw [this, Bool.eq_iff_iff]
    simp only [beq_iff_eq, toInt_inj, decide_eq_true_eq]
  simp only [mk, bne, z]
  by_cases h1 : c = 0#64
  · simp only [h1, decide_true, if_true, true_or]
  · by_cases h2 : b = 0#64
    · simp [h1, h2]
    · by_cases h3 : b &&& ~~~ c = 0#64
      · by_cases h4 : d = -1
        · simp [h1, h2, h3, h4]
        · by_cases h5 : d = a <;> simp [h1, h2, h3, h4, h5]
      · simp [h1, h2, h3]

def jB (b c : W) : W := if b = 0#64 ∨ c = 0#64 then 0#64 else b ||| c
def jA (b : W) (a : Int) (c : W) (d : Int) : Int := if b = 0#64 ∨ c = 0#64 then -1 else if b ||| c = 16#64 ∨ b ||| c = 256#64 then (if a = d then a else -1) else -1
theorem jn_mk (b : W) (a : Int) (c : W) (d : Int) : jn b a c d = mk (jB b c) (jA b a c d) := by
  unfold jn jB jA
  split
  · rfl
  · split <;> rfl
theorem jn_Nk {b c : W} {a d : Int} (h : Nk b a) (h' : Nk c d) : Nk (jB b c) (jA b a c d) := by
  obtain ⟨x, y, e, hn⟩ := jn_ok h h'
  rw [jn_mk] at e
  simp only [mk, KT.mk.injEq, toInt_inj] at e
  rw [e.1, e.2]; exact hn
theorem or_ne {b c : W} (h : b ≠ 0#64) : b ||| c ≠ 0#64 := by
  intro e
  apply h
  ext i hi
  have := congrArg (fun x : W => x[i]) e
  simp at this ⊢
  exact this.1
theorem sub_or (b c : W) : b &&& ~~~(b ||| c) = 0#64 := by
  ext i hi
  simp only [BitVec.getElem_and, BitVec.getElem_not, BitVec.getElem_or]
  cases b[i] <;> cases c[i] <;> simp
theorem sub_iff {b c : W} : b &&& ~~~c = 0#64 ↔ b ||| c = c := by
  constructor
  · intro h
    ext i hi
    have := congrArg (fun x : W => x[i]) h
    simp only [BitVec.getElem_and, BitVec.getElem_not, BitVec.getElem_or] at this ⊢
    revert this
    cases b[i] <;> cases c[i] <;> simp
  · intro h
    rw [← h]; exact sub_or b c
theorem or_sub {b c e : W} (h : b &&& ~~~e = 0#64) (h' : c &&& ~~~e = 0#64) : (b ||| c) &&& ~~~e = 0#64 := by
  rw [sub_iff] at *
  rw [BitVec.or_assoc, h', h]
theorem sub_one {b e : W} (he : e = 16#64 ∨ e = 256#64) (hb : b ≠ 0#64) (h : b &&& ~~~e = 0#64) : b = e := by
  rw [sub_iff] at h
  rcases he with rfl | rfl
  · exact (or16 h).resolve_left hb
  · exact (or256 h).resolve_left hb

section
variable {b c e : W} {a d f : Int}
theorem jn_comm : jn b a c d = jn c d b a := by
  rw [jn_mk, jn_mk]
  have h1 : jB b c = jB c b := by unfold jB; simp only [or_comm, BitVec.or_comm]
  have h2 : jA b a c d = jA c d b a := by
    unfold jA
    simp only [BitVec.or_comm b c, or_comm (a := b = 0#64)]
    by_cases h : a = d
    · subst h; rfl
    · rw [if_neg h, if_neg (Ne.symm h)]
  rw [h1, h2]
theorem jn_idem (h : Nk b a) : jn b a b a = mk b a := by
  rw [jn_mk]
  unfold jB jA
  by_cases hb : b = 0#64
  · have := h.h2 (by rw [hb]; decide) (by rw [hb]; decide)
    simp [hb, this]
  · simp only [hb, or_self, if_false, BitVec.or_self, if_true]
    by_cases h1 : b = 16#64 ∨ b = 256#64
    · rw [if_pos h1]
    · rw [if_neg h1, h.h2 (fun x => h1 (.inl x)) (fun x => h1 (.inr x))]
theorem un_left (h : Nk b a) : un b a (jB b c) (jA b a c d) = true := by
  unfold un
  rw [decide_eq_true_iff]
  by_cases h0 : b = 0#64 ∨ c = 0#64
  · left; unfold jB; rw [if_pos h0]
  · right
    have hb : b ≠ 0#64 := fun x => h0 (.inl x)
    unfold jB jA
    rw [if_neg h0, if_neg h0]
    refine ⟨hb, sub_or b c, ?_⟩
    split
    · split
      · exact .inr rfl
      · exact .inl rfl
    · exact .inl rfl
theorem un_right (h : Nk c d) : un c d (jB b c) (jA b a c d) = true := by
  have := un_left (c := b) (d := a) h
  have e := jn_comm (b := b) (a := a) (c := c) (d := d)
  rw [jn_mk, jn_mk] at e
  simp only [mk, KT.mk.injEq, toInt_inj] at e
  rw [e.1, e.2]; exact this
theorem jn_assoc : jn (jB b c) (jA b a c d) e f = jn b a (jB c e) (jA c d e f) := by
  rw [jn_mk, jn_mk]
  by_cases hb : b = 0#64
  · simp [jB, jA, hb]
  by_cases hc : c = 0#64
  · simp [jB, jA, hc]
  by_cases he : e = 0#64
  · simp [jB, jA, he]
  have hbc : b ||| c ≠ 0#64 := or_ne hb
  have hce : c ||| e ≠ 0#64 := or_ne hc
  have e1 : jB b c = b ||| c := by simp [jB, hb, hc]
  have e2 : jB c e = c ||| e := by simp [jB, hc, he]
  rw [e1, e2]
  have e3 : jB (b ||| c) e = jB b (c ||| e) := by simp [jB, hb, he, hbc, hce, BitVec.or_assoc]
  rw [e3]
  congr 1
  by_cases hs : b ||| c ||| e = 16#64 ∨ b ||| c ||| e = 256#64
  · have key : ∃ o : W, (o = 16#64 ∨ o = 256#64) ∧ b = o ∧ c = o ∧ e = o := by
      rcases hs with hs | hs
      · refine ⟨16#64, .inl rfl, ?_, ?_, ?_⟩
        · rw [BitVec.or_assoc] at hs; exact (or16 hs).resolve_left hb
        · rw [BitVec.or_comm b c, BitVec.or_assoc] at hs; exact (or16 hs).resolve_left hc
        · rw [BitVec.or_comm] at hs; exact (or16 hs).resolve_left he
      · refine ⟨256#64, .inr rfl, ?_, ?_, ?_⟩
        · rw [BitVec.or_assoc] at hs; exact (or256 hs).resolve_left hb
        · rw [BitVec.or_comm b c, BitVec.or_assoc] at hs; exact (or256 hs).resolve_left hc
        · rw [BitVec.or_comm] at hs; exact (or256 hs).resolve_left he
    obtain ⟨o, ho, rfl, rfl, rfl⟩ := key
    simp only [jA, hb, or_self, if_false, BitVec.or_self, ho, if_true]
    split <;> split <;> split <;> (try split) <;> omega
  · have hs' : ¬(b ||| (c ||| e) = 16#64 ∨ b ||| (c ||| e) = 256#64) := by rw [← BitVec.or_assoc]; exact hs
    have l : ∀ x, jA (b ||| c) x e f = -1 := fun x => by unfold jA; rw [if_neg (by simp [hbc, he]), if_neg hs]
    have r : ∀ x, jA b a (c ||| e) x = -1 := fun x => by unfold jA; rw [if_neg (by simp [hb, hce]), if_neg hs']
    rw [l, r]
theorem un_lub (h : Nk b a) (h' : Nk c d) (h'' : Nk e f) (h1 : un b a e f = true) (h2 : un c d e f = true) : un (jB b c) (jA b a c d) e f = true := by
  unfold un at *
  rw [decide_eq_true_iff] at *
  by_cases he : e = 0#64
  · exact .inl he
  right
  obtain ⟨b1, b2, b3⟩ := h1.resolve_left he
  obtain ⟨c1, c2, c3⟩ := h2.resolve_left he
  have hbc : ¬(b = 0#64 ∨ c = 0#64) := by simp [b1, c1]
  have e1 : jB b c = b ||| c := by unfold jB; rw [if_neg hbc]
  rw [e1]
  refine ⟨or_ne b1, or_sub b2 c2, ?_⟩
  by_cases hf : f = -1
  · exact .inl hf
  right
  have hs : e = 16#64 ∨ e = 256#64 := by
    by_cases x : e = 16#64
    · exact .inl x
    · by_cases y : e = 256#64
      · exact .inr y
      · exact absurd (h''.h2 x y) hf
  have hb := sub_one hs b1 b2
  have hc := sub_one hs c1 c2
  have fa := b3.resolve_left hf
  have fd := c3.resolve_left hf
  unfold jA
  rw [if_neg hbc, hb, hc, BitVec.or_self, if_pos hs, if_pos (by omega)]
  exact fa
theorem un_jn (h : Nk b a) (h' : Nk c d) : un b a c d = decide (jn b a c d = mk c d) := by
  unfold un
  rw [jn_mk]
  rw [decide_eq_decide]
  simp only [mk, KT.mk.injEq, toInt_inj]
  by_cases hc : c = 0#64
  · have := h'.h2 (by rw [hc]; decide) (by rw [hc]; decide)
    simp [jB, jA, hc, this]
  by_cases hb : b = 0#64
  · simp [jB, jA, hc, hb, Ne.symm hc]
  have hbc : ¬(b = 0#64 ∨ c = 0#64) := by simp [hb, hc]
  unfold jB jA
  rw [if_neg hbc, if_neg hbc]
  simp only [hc, hb, false_or, ne_eq, not_false_iff, true_and]
  rw [sub_iff]
  refine and_congr_right fun e => ?_
  rw [e]
  by_cases hs : c = 16#64 ∨ c = 256#64
  · rw [if_pos hs]
    split <;> omega
  · rw [if_neg hs, h'.h2 (fun x => hs (.inl x)) (fun x => hs (.inr x))]
    simp
end

/-! the same, of values -/
def Nt (x : KT) : Prop := ∃ b a, x = mk b a ∧ Nk b a
def Jn (x y : KT) : KT := join x.m x.a y.m y.a
def Un (x y : KT) : Bool := under x.m x.a y.m y.a
theorem norm_N (m a : Int) : Nt (norm m a) := norm_mk m a
section
variable {x y z : KT}
theorem Jn_N (hx : Nt x) (hy : Nt y) : Nt (Jn x y) := by
  obtain ⟨b, a, rfl, h⟩ := hx
  obtain ⟨c, d, rfl, h'⟩ := hy
  exact ⟨_, _, by rw [Jn, join_mk h h', jn_mk], jn_Nk h h'⟩
theorem Jn_comm (hx : Nt x) (hy : Nt y) : Jn y x = Jn x y := by
  obtain ⟨b, a, rfl, h⟩ := hx
  obtain ⟨c, d, rfl, h'⟩ := hy
  rw [Jn, Jn, join_mk h h', join_mk h' h, jn_comm]
theorem Jn_idem (hx : Nt x) : Jn x x = x := by
  obtain ⟨b, a, rfl, h⟩ := hx
  rw [Jn, join_mk h h, jn_idem h]
theorem Jn_assoc (hx : Nt x) (hy : Nt y) (hz : Nt z) : Jn (Jn x y) z = Jn x (Jn y z) := by
  obtain ⟨b, a, rfl, h⟩ := hx
  obtain ⟨c, d, rfl, h'⟩ := hy
  obtain ⟨e, f, rfl, h''⟩ := hz
  rw [Jn, Jn, Jn, Jn, join_mk h h', join_mk h' h'', jn_mk, jn_mk, join_mk (jn_Nk h h') h'', join_mk h (jn_Nk h' h''), jn_assoc]
theorem Un_left (hx : Nt x) (hy : Nt y) : Un x (Jn x y) = true := by
  obtain ⟨b, a, rfl, h⟩ := hx
  obtain ⟨c, d, rfl, h'⟩ := hy
  rw [Un, Jn, join_mk h h', jn_mk, under_mk h (jn_Nk h h'), un_left h]
theorem Un_right (hx : Nt x) (hy : Nt y) : Un y (Jn x y) = true := by
  rw [← Jn_comm hx hy]; exact Un_left hy hx
theorem Un_lub (hx : Nt x) (hy : Nt y) (hz : Nt z) (h1 : Un x z = true) (h2 : Un y z = true) : Un (Jn x y) z = true := by
  obtain ⟨b, a, rfl, h⟩ := hx
  obtain ⟨c, d, rfl, h'⟩ := hy
  obtain ⟨e, f, rfl, h''⟩ := hz
  rw [Un, under_mk h h''] at h1
  rw [Un, under_mk h' h''] at h2
  rw [Un, Jn, join_mk h h', jn_mk, under_mk (jn_Nk h h') h'']
  exact un_lub h h' h'' h1 h2
theorem Un_Jn (hx : Nt x) (hy : Nt y) : Un x y = decide (Jn x y = y) := by
  obtain ⟨b, a, rfl, h⟩ := hx
  obtain ⟨c, d, rfl, h'⟩ := hy
  rw [Un, under_mk h h', Jn, join_mk h h', un_jn h h']
theorem Un_none (hx : Nt x) (h0 : x.m ≠ 0) : under 0 (-1) x.m x.a = false := by
  obtain ⟨b, a, rfl, h⟩ := hx
  have := under_mk Nk_none h
  have e : under 0 (-1) (mk b a).m (mk b a).a = un 0#64 (-1) b a := this
  rw [e]
  unfold un
  have hb : b ≠ 0#64 := fun e => h0 (by rw [e]; rfl)
  simp [hb]
theorem wout511_N (hx : Nt x) : wout x.m x.a 511 = ⟨0, -1⟩ := by
  obtain ⟨b, a, rfl, h⟩ := hx
  exact wout511 h
theorem eqB (x y : KT) : (x.m == y.m && x.a == y.a) = decide (x = y) := by
  rw [Bool.eq_iff_iff]
  simp only [Bool.and_eq_true, beq_iff_eq, decide_eq_true_eq]
  exact ⟨fun h => KT.ext' h.1 h.2, fun h => by rw [h]; exact ⟨rfl, rfl⟩⟩
end

/-! tuples -/
theorem N16 {p : Int} (h : -1 ≤ p) : Nk 16#64 p := ⟨by decide, fun h _ => absurd rfl h, h⟩
theorem Nany : Nk 127#64 (-1) := ⟨by decide, fun _ _ => rfl, by omega⟩
theorem N1 : Nk 1#64 (-1) := ⟨by decide, fun _ _ => rfl, by omega⟩
theorem ofK5 {p : Int} (h : 0 ≤ p) : ofK 5 0 p = mk 16#64 p := by
  have e : ofK 5 0 p = made (16#64 : W).toInt p := rfl
  rw [e, made_eq]
  have h1 : 16#64 &&& 511#64 = 16#64 := by decide
  rw [h1, if_pos ⟨.inl rfl, by omega⟩]
section
variable {p q : Int}
theorem t1 (hp : -1 ≤ p) (hq : -1 ≤ q) : join (mk 16#64 p).m (mk 16#64 p).a (mk 16#64 q).m (mk 16#64 q).a = mk 16#64 (if p = q then p else -1) := by
  rw [join_mk (N16 hp) (N16 hq)]
  unfold jn
  have e1 : ¬(16#64 = 0#64 ∨ 16#64 = 0#64) := by decide
  rw [if_neg e1, BitVec.or_self, if_pos (.inl rfl)]
theorem t2 (hp : -1 ≤ p) : under (mk 16#64 p).m (mk 16#64 p).a 127 (-1) = true := by
  have := under_mk (N16 hp) Nany
  have e : under (mk 16#64 p).m (mk 16#64 p).a 127 (-1) = under (mk 16#64 p).m (mk 16#64 p).a (mk 127#64 (-1)).m (mk 127#64 (-1)).a := rfl
  rw [e, this]
  unfold un
  rw [decide_eq_true_iff]
  exact .inr ⟨by decide, by decide, .inl rfl⟩
theorem t4 (hp : -1 ≤ p) : under 127 (-1) (mk 16#64 p).m (mk 16#64 p).a = false := by
  have := under_mk Nany (N16 hp)
  have e : under 127 (-1) (mk 16#64 p).m (mk 16#64 p).a = under (mk 127#64 (-1)).m (mk 127#64 (-1)).a (mk 16#64 p).m (mk 16#64 p).a := rfl
  rw [e, this]
  unfold un
  rw [decide_eq_false_iff_not]
  rintro (h | ⟨_, h, _⟩)
  · exact absurd h (by decide)
  · exact absurd h (by decide)
theorem t5 : meet 127 (-1) 16 = ⟨16, -1⟩ := by decide
theorem t6 (hp : -1 ≤ p) : meet (mk 16#64 p).m (mk 16#64 p).a 16 = mk 16#64 p := by
  rw [meet_mk (N16 hp)]
  have h1 : 16#64 &&& bw 16 = 16#64 := by decide
  rw [h1, if_pos (.inl rfl)]
theorem t7 (hp : -1 ≤ p) : join (mk 16#64 p).m (mk 16#64 p).a 1 (-1) = ⟨17, -1⟩ := by
  have := join_mk (N16 hp) N1
  have e : join (mk 16#64 p).m (mk 16#64 p).a 1 (-1) = join (mk 16#64 p).m (mk 16#64 p).a (mk 1#64 (-1)).m (mk 1#64 (-1)).a := rfl
  rw [e, this]
  unfold jn
  have e1 : ¬(16#64 = 0#64 ∨ 1#64 = 0#64) := by decide
  have e2 : ¬(16#64 ||| 1#64 = 16#64 ∨ 16#64 ||| 1#64 = 256#64) := by decide
  rw [if_neg e1, if_neg e2]
  rfl
theorem t8 (hp : -1 ≤ p) : plain (mk 16#64 p).m (mk 16#64 p).a = true := by
  unfold plain
  rw [made_mk (N16 hp)]
  have e : (mk 16#64 p).m = 16 := rfl
  rw [e]
  decide
end
theorem place_rng (x n : Int) (h0 : 0 < n) (h : n < 4611686018427387904) : 0 ≤ place x n ∧ place x n < n := by
  unfold place
  have h1 := Int.tmod_lt_of_pos x h0
  have h2 : -n < x.tmod n := Int.lt_tmod_of_pos x h0
  simp only [decide_eq_true_eq]
  split
  · rw [IntKind.wrap_i64]; omega
  · omega

/-! what is of a kind, and what is not -/
theorem and_not0 (b : W) : b &&& ~~~(0#64) = b := by
  ext i hi
  simp only [BitVec.getElem_and, BitVec.getElem_not]
  cases b[i] <;> simp
theorem made_N (b : W) (a : Int) : ∃ c d, made b.toInt a = mk c d ∧ Nk c d := by
  refine ⟨_, _, made_eq b a, ⟨by ext i hi; simp, fun h1 h2 => ?_, ?_⟩⟩
  · rw [if_neg (fun h => h.1.elim h1 h2)]
  · split <;> omega
theorem ofK_N (kd n : Int) (l : Nat) : ∃ ob oa, ofK kd n l = mk ob oa ∧ Nk ob oa ∧ (ob = 0#64 ∨ ∃ j, j < 64 ∧ ob = BitVec.twoPow 64 j) := by
  have e16 : (16 : Int) = (16#64 : W).toInt := by decide
  have e256 : (256 : Int) = (256#64 : W).toInt := by decide
  by_cases h5 : kd = 5
  · subst h5
    have e : ofK 5 n l = made (16#64 : W).toInt l := rfl
    rw [e, made_eq]
    refine ⟨_, _, rfl, ⟨by decide, fun h1 _ => absurd (by decide) h1, by split <;> omega⟩, .inr ⟨4, by omega, by decide⟩⟩
  by_cases h9 : kd = 9
  · subst h9
    have e : ofK 9 n l = made (256#64 : W).toInt n := rfl
    rw [e, made_eq]
    refine ⟨_, _, rfl, ⟨by decide, fun _ h1 => absurd (by decide) h1, by split <;> omega⟩, .inr ⟨8, by omega, by decide⟩⟩
  by_cases h1 : kd < 1
  · have e : ofK kd n l = made 0 (-1) := by simp [ofK, h5, h9, h1]
    rw [e, none_mk]
    exact ⟨_, _, rfl, Nk_none, .inl rfl⟩
  by_cases h2 : kd > 9
  · have e : ofK kd n l = made 0 (-1) := by simp [ofK, h5, h9, h2]
    rw [e, none_mk]
    exact ⟨_, _, rfl, Nk_none, .inl rfl⟩
  have key : ∀ (k : Int) (b : W), kd = k → ofK k n l = mk b (-1) → Nk b (-1) → (∃ j, j < 64 ∧ b = BitVec.twoPow 64 j) → ∃ ob oa, ofK kd n l = mk ob oa ∧ Nk ob oa ∧ (ob = 0#64 ∨ ∃ j, j < 64 ∧ ob = BitVec.twoPow 64 j) := by
    intro k b e1 e2 e3 e4
    subst e1
    exact ⟨_, _, e2, e3, .inr e4⟩
  have hk : kd = 1 ∨ kd = 2 ∨ kd = 3 ∨ kd = 4 ∨ kd = 6 ∨ kd = 7 ∨ kd = 8 := by omega
  rcases hk with h | h | h | h | h | h | h
  · exact key 1 1#64 h (by show made (IntKind.i64.wrap (1 * 2 ^ (min (IntKind.i64.wrap (1 - 1)).toNat 64))) (-1) = _; decide) ⟨by decide, fun _ _ => rfl, by omega⟩ ⟨0, by omega, by decide⟩
  · exact key 2 2#64 h (by show made (IntKind.i64.wrap (1 * 2 ^ (min (IntKind.i64.wrap (2 - 1)).toNat 64))) (-1) = _; decide) ⟨by decide, fun _ _ => rfl, by omega⟩ ⟨1, by omega, by decide⟩
  · exact key 3 4#64 h (by show made (IntKind.i64.wrap (1 * 2 ^ (min (IntKind.i64.wrap (3 - 1)).toNat 64))) (-1) = _; decide) ⟨by decide, fun _ _ => rfl, by omega⟩ ⟨2, by omega, by decide⟩
  · exact key 4 8#64 h (by show made (IntKind.i64.wrap (1 * 2 ^ (min (IntKind.i64.wrap (4 - 1)).toNat 64))) (-1) = _; decide) ⟨by decide, fun _ _ => rfl, by omega⟩ ⟨3, by omega, by decide⟩
  · exact key 6 32#64 h (by show made (IntKind.i64.wrap (1 * 2 ^ (min (IntKind.i64.wrap (6 - 1)).toNat 64))) (-1) = _; decide) ⟨by decide, fun _ _ => rfl, by omega⟩ ⟨5, by omega, by decide⟩
  · exact key 7 64#64 h (by show made (IntKind.i64.wrap (1 * 2 ^ (min (IntKind.i64.wrap (7 - 1)).toNat 64))) (-1) = _; decide) ⟨by decide, fun _ _ => rfl, by omega⟩ ⟨6, by omega, by decide⟩
  · exact key 8 128#64 h (by show made (IntKind.i64.wrap (1 * 2 ^ (min (IntKind.i64.wrap (8 - 1)).toNat 64))) (-1) = _; decide) ⟨by decide, fun _ _ => rfl, by omega⟩ ⟨7, by omega, by decide⟩

theorem two_sub {b : W} {j : Nat} (hj : j < 64) : BitVec.twoPow 64 j &&& ~~~b = 0#64 ↔ b.getLsbD j = true := by
  constructor
  · intro h
    have := congrArg (fun x : W => x.getLsbD j) h
    simp [BitVec.getLsbD_twoPow, hj] at this
    exact this
  · intro h
    ext i hi
    by_cases e : i = j
    · subst e; simp [← BitVec.getLsbD_eq_getElem, h]
    · simp [BitVec.getElem_twoPow, e]
def hK (ob : W) (oa : Int) (b : W) (a : Int) : Bool := decide (ob ≠ 0#64 ∧ ob &&& ~~~b = 0#64 ∧ (a = -1 ∨ a = oa))
theorem has_mk {b ob : W} {a oa kd n : Int} {l : Nat} (h : Nk b a) (ho : ofK kd n l = mk ob oa) (hN : Nk ob oa) : has (mk b a).m (mk b a).a kd n l = hK ob oa b a := by
  have hz : ∀ (x : W) (y : Int), ((mk x y).m != 0) = decide (x ≠ 0#64) := fun x y => by
    have : (0 : Int) = (0#64 : W).toInt := by decide
    rw [this, Bool.eq_iff_iff]
    simp only [mk, bne_iff_ne, ne_eq, toInt_inj, decide_eq_true_eq]
  unfold has
  rw [made_mk h, ho, under_mk hN h, hz, hz]
  unfold un hK
  by_cases hb : b = 0#64
  · subst hb
    by_cases ho : ob = 0#64
    · simp [ho]
    · simp only [and_not0, ho]; simp
  · by_cases ho : ob = 0#64
    · simp [ho]
    · simp [hb, ho]
theorem hK_split {b ob k : W} {a oa a1 a2 : Int} (h : Nk b a) (hN : Nk ob oa) (hob : ob = 0#64 ∨ ∃ j, j < 64 ∧ ob = BitVec.twoPow 64 j)
    (h1 : a1 = if (b &&& k = 16#64 ∨ b &&& k = 256#64) then a else -1) (h2 : a2 = if (b &&& ~~~k = 16#64 ∨ b &&& ~~~k = 256#64) then a else -1) :
    hK ob oa b a = (hK ob oa (b &&& k) a1 || hK ob oa (b &&& ~~~k) a2) ∧ (hK ob oa (b &&& k) a1 && hK ob oa (b &&& ~~~k) a2) = false := by
  rcases hob with rfl | ⟨j, hj, rfl⟩
  · simp [hK]
  have hne : BitVec.twoPow 64 j ≠ 0#64 := by
    intro e
    have := congrArg (fun x : W => x.getLsbD j) e
    simp [BitVec.getLsbD_twoPow, hj] at this
  have part : ∀ (c : W) (a' : Int), c &&& ~~~b = 0#64 → (BitVec.twoPow 64 j) &&& ~~~c = 0#64 → a' = (if c = 16#64 ∨ c = 256#64 then a else -1) → ((a' = -1 ∨ a' = oa) ↔ (a = -1 ∨ a = oa)) := by
    intro c a' hc hj2 ha
    by_cases hs : c = 16#64 ∨ c = 256#64
    · rw [if_pos hs] at ha; rw [ha]
    · rw [if_neg hs] at ha
      have hc0 : c ≠ 0#64 := by
        intro e; rw [e, and_not0] at hj2; exact hne hj2
      have hb : ¬(b = 16#64 ∨ b = 256#64) := fun hb => hs ((sub_one hb hc0 hc) ▸ hb)
      have := h.h2 (fun e => hb (.inl e)) (fun e => hb (.inr e))
      simp [ha, this]
  have s1 : (b &&& k) &&& ~~~b = 0#64 := by
    ext i hi; simp only [BitVec.getElem_and, BitVec.getElem_not]; cases b[i] <;> cases k[i] <;> simp
  have s2 : (b &&& ~~~k) &&& ~~~b = 0#64 := by
    ext i hi; simp only [BitVec.getElem_and, BitVec.getElem_not]; cases b[i] <;> cases k[i] <;> simp
  have g1 : (b &&& k).getLsbD j = (b.getLsbD j && k.getLsbD j) := by simp
  have g2 : (b &&& ~~~k).getLsbD j = (b.getLsbD j && !k.getLsbD j) := by simp [hj]
  have t : ∀ c : W, (BitVec.twoPow 64 j &&& ~~~c = 0#64) = (c.getLsbD j = true) := fun c => propext (two_sub hj)
  have p1 := part (b &&& k) a1 s1
  have p2 := part (b &&& ~~~k) a2 s2
  simp only [hK, t, hne, ne_eq, not_false_iff, true_and] at p1 p2 ⊢
  rw [g1] at p1 ⊢
  rw [g2] at p2 ⊢
  cases hbj : b.getLsbD j
  · simp
  · cases hkj : k.getLsbD j
    · have := p2 (by simp [hbj, hkj]) h2
      simp [this]
    · have := p1 (by simp [hbj, hkj]) h1
      simp [this]
theorem or_split (b k : W) : (b &&& k) ||| (b &&& ~~~k) = b := by
  ext i hi; simp only [BitVec.getElem_and, BitVec.getElem_not, BitVec.getElem_or]; cases b[i] <;> cases k[i] <;> rfl
theorem and_split (b k : W) : (b &&& k) &&& (b &&& ~~~k) = 0#64 := by
  ext i hi; simp only [BitVec.getElem_and, BitVec.getElem_not]; cases b[i] <;> cases k[i] <;> simp
theorem Nk_and {b k : W} {a : Int} (h : Nk b a) : Nk (b &&& k) (if (b &&& k = 16#64 ∨ b &&& k = 256#64) then a else -1) := by
  refine ⟨?_, fun h1 h2 => ?_, ?_⟩
  · conv => rhs; rw [← h.h1]
    ext i hi; simp only [BitVec.getElem_and]; cases b[i] <;> cases k[i] <;> cases (511#64 : W)[i] <;> rfl
  · rw [if_neg (fun e => e.elim h1 h2)]
  · have := h.h3
    split <;> omega

/-- the law, of values -/
theorem splits {y : KT} (hy : Nt y) (x kd n : Int) (l : Nat) :
    bits .or .i64 (meet y.m y.a x).m (wout y.m y.a x).m = y.m ∧ bits .and .i64 (meet y.m y.a x).m (wout y.m y.a x).m = 0 ∧
    has y.m y.a kd n l = (has (meet y.m y.a x).m (meet y.m y.a x).a kd n l || has (wout y.m y.a x).m (wout y.m y.a x).a kd n l) ∧
    (has (meet y.m y.a x).m (meet y.m y.a x).a kd n l && has (wout y.m y.a x).m (wout y.m y.a x).a kd n l) = false := by
  obtain ⟨b, a, rfl, h⟩ := hy
  obtain ⟨ob, oa, ho, hN, hob⟩ := ofK_N kd n l
  rw [meet_mk h, wout_mk h]
  have n1 := Nk_and (k := bw x) h
  have n2 := Nk_and (k := ~~~ bw x) h
  rw [has_mk h ho hN, has_mk n1 ho hN, has_mk n2 ho hN]
  have := hK_split (k := bw x) h hN hob rfl rfl
  refine ⟨?_, ?_, this.1, this.2⟩
  · simp only [bits_or, mk, bw_toInt, or_split]
  · simp only [bits_and, mk, bw_toInt, and_split]; decide
end GoL
