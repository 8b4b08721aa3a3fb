/- A part of the proof: a logic for programs of this kind, proved sound over the model; contracts of functions; plain laws. -/
import Derived.Test.YtkkmiicadfmfdaaID
import Derived.Laws.Bits64b
set_option linter.all false
open Go Go.Proofs
namespace GoL
set_option linter.unusedVariables false
set_option linter.unusedSimpArgs false
set_option maxRecDepth 100000
theorem bits_or_i64 (a b : Nat) (ha : a < 9223372036854775808) (hb : b < 9223372036854775808) :
    bits .or .i64 (a : Int) (b : Int) = ((a ||| b : Nat) : Int) := by
  have hx : a ||| b < 2 ^ 63 := Nat.or_lt_two_pow (by omega) (by omega)
  have h1 : (BitVec.ofInt 64 (a : Int)).toNat = a := by
    rw [BitVec.ofInt_natCast, BitVec.toNat_ofNat]; exact Nat.mod_eq_of_lt (by omega)
  have h2 : (BitVec.ofInt 64 (b : Int)).toNat = b := by
    rw [BitVec.ofInt_natCast, BitVec.toNat_ofNat]; exact Nat.mod_eq_of_lt (by omega)
  show IntKind.i64.wrap ((BitVec.ofInt 64 (a : Int) ||| BitVec.ofInt 64 (b : Int)).toNat : Int) = _
  rw [BitVec.toNat_or, h1, h2, IntKind.wrap_i64]
  omega
theorem bits_and3 (x : Int) : bits .and .i64 x 3 = x % 4 := by
  have h2 : (BitVec.ofInt 64 (3 : Int)).toNat = 2 ^ 2 - 1 := by decide
  show IntKind.i64.wrap ((BitVec.ofInt 64 x &&& BitVec.ofInt 64 (3 : Int)).toNat : Int) = _
  rw [BitVec.toNat_and, h2, Nat.and_two_pow_sub_one_eq_mod, BitVec.toNat_ofInt, IntKind.wrap_i64]
  omega
theorem fill_eq {n x y : Int} (h : 0 ≤ n ∧ n ≤ 4611686018427387904) (hx : x = IntKind.wrap .i64 (0 - n)) (hy : y = bits .and .i64 x 3) : y = fillI n := by
  rw [hy, bits_and3, hx, IntKind.wrap_i64]
  unfold fillI
  omega
theorem fill_rng (n : Int) : 0 ≤ fillI n ∧ fillI n < 4 ∧ (n + fillI n) % 4 = 0 := by unfold fillI; omega
theorem or_num {a b c d : Nat} (ha : a < 256) (hb : b < 256) (hc : c < 256) (hd : d < 256) :
    bits .or .i64 (bits .or .i64 (bits .or .i64 ((a * 16777216 : Nat) : Int) ((b * 65536 : Nat) : Int)) ((c * 256 : Nat) : Int)) (d : Int) = ((a * 16777216 + b * 65536 + c * 256 + d : Nat) : Int) := by
  have e1 : a * 16777216 ||| b * 65536 = a * 16777216 + b * 65536 := by
    have := Nat.shiftLeft_add_eq_or_of_lt (i := 24) (b := b * 65536) (by omega) a
    rw [Nat.shiftLeft_eq, show (2 : Nat) ^ 24 = 16777216 from rfl] at this
    exact this.symm
  have e2 : (a * 16777216 + b * 65536) ||| c * 256 = a * 16777216 + b * 65536 + c * 256 := by
    have := Nat.shiftLeft_add_eq_or_of_lt (i := 16) (b := c * 256) (by omega) (a * 256 + b)
    rw [Nat.shiftLeft_eq, show (2 : Nat) ^ 16 = 65536 from rfl, show (a * 256 + b) * 65536 = a * 16777216 + b * 65536 from by rw [Nat.add_mul, Nat.mul_assoc]] at this
    exact this.symm
  have e3 : (a * 16777216 + b * 65536 + c * 256) ||| d = a * 16777216 + b * 65536 + c * 256 + d := by
    have := Nat.shiftLeft_add_eq_or_of_lt (i := 8) (b := d) (by omega) (a * 65536 + b * 256 + c)
    rw [Nat.shiftLeft_eq, show (2 : Nat) ^ 8 = 256 from rfl, show (a * 65536 + b * 256 + c) * 256 = a * 16777216 + b * 65536 + c * 256 from by rw [Nat.add_mul, Nat.add_mul, Nat.mul_assoc, Nat.mul_assoc]] at this
    exact this.symm
  rw [bits_or_i64 _ _ (by omega) (by omega), e1, bits_or_i64 _ _ (by omega) (by omega), e2, bits_or_i64 _ _ (by omega) (by omega), e3]
theorem wrap8 (n : Int) : IntKind.u8.wrap n = n % 256 := by simp [IntKind.wrap, IntKind.bits, IntKind.signed]
theorem byte_at {vs : List V} (h : BLs vs) {i : Nat} (hi : i < vs.length) : getV vs (i : Int) = .int .u8 (bAt vs i) ∧ 0 ≤ bAt vs i ∧ bAt vs i < 256 := by
  have hm : vs.getD i .junk ∈ vs := by rw [List.getD_eq_getElem?_getD, List.getElem?_eq_getElem hi]; exact List.getElem_mem _
  have hb := h _ hm
  refine ⟨?_, by unfold bAt; omega, ?_⟩
  · unfold getV bAt
    rw [Int.toNat_natCast]
    exact hb
  · unfold bAt
    have := (byteV (vs.getD i .junk)).toNat_lt
    omega
theorem sz_byte {vs : List V} (h : BLs vs) : ∀ v, List.Mem v vs → V.sz v = 1 := fun v hv => by rw [h v hv]; rfl
theorem isByte_int {n : Int} (h0 : 0 ≤ n) (h1 : n < 256) : isByte (.int .u8 n) := by
  unfold isByte byteV
  congr 1
  rw [UInt8.toNat_ofNat']
  omega
theorem BLs_four (n : Int) : BLs (fourV n) := by
  intro v hv
  simp only [fourV, List.mem_cons, List.not_mem_nil, or_false] at hv
  rcases hv with rfl | rfl | rfl | rfl <;> (rw [wrap8]; exact isByte_int (by omega) (by omega))
end GoL
