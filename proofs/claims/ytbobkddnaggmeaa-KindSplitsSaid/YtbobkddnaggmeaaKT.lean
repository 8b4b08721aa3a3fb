/- A part of the proof: a logic for programs of this kind, proved sound over the model; contracts of functions; plain laws. -/
import Derived.Test.YtbobkddnaggmeaaKD
set_option linter.all false
open Go Go.Proofs
namespace GoL
set_option linter.unusedVariables false
/-! what a law's arguments look like, by their types -/
theorem len2 {α : Type} {l : List α} (h : l.length = 2) : ∃ a b, l = [a, b] := by
  match l, h with
  | [a, b], _ => exact ⟨a, b, rfl⟩
theorem len3 {α : Type} {l : List α} (h : l.length = 3) : ∃ a b c, l = [a, b, c] := by
  match l, h with
  | [a, b, c], _ => exact ⟨a, b, c, rfl⟩
theorem len5 {α : Type} {l : List α} (h : l.length = 5) : ∃ a b c d e, l = [a, b, c, d, e] := by
  match l, h with
  | [a, b, c, d, e], _ => exact ⟨a, b, c, d, e, rfl⟩
theorem ty3 {v : V} (h : Typed Try.prog reachBytes 3 v) : ∃ n : Int, v = .int .i64 n := by
  obtain ⟨n, rfl, _⟩ := h.int_inv Try.underlying3
  exact ⟨n, rfl⟩
theorem ty4 {v : V} (h : Typed Try.prog reachBytes 4 v) : ∃ b : Bool, v = .bool b := h.bool_inv Try.underlying4
theorem ty9 {v : V} (h : Typed Try.prog reachBytes 9 v) : ∃ s : List UInt8, v = .str s := by
  obtain ⟨s, rfl, _⟩ := h.str_inv Try.underlying9
  exact ⟨s, rfl⟩
theorem ty23 {v : V} (h : Typed Try.prog reachBytes 23 v) : ∃ m a : Int, v = .agg [.int .i64 m, .int .i64 a] := by
  obtain ⟨vs, rfl, hl, hf⟩ := h.struct_inv Try.underlying23
  obtain ⟨x, y, rfl⟩ := len2 hl
  obtain ⟨m, rfl⟩ := ty3 (hf 0 _ x rfl rfl)
  obtain ⟨a, rfl⟩ := ty3 (hf 1 _ y rfl rfl)
  exact ⟨m, a, rfl⟩
theorem ty33 {v : V} (h : Typed Try.prog reachBytes 33 v) : ∃ (neg : Bool) (ls : List V), v = .agg [.bool neg, .list false ls] := by
  obtain ⟨vs, rfl, hl, hf⟩ := h.struct_inv Try.underlying33
  obtain ⟨x, y, rfl⟩ := len2 hl
  obtain ⟨m, rfl⟩ := ty4 (hf 0 _ x rfl rfl)
  obtain ⟨a, rfl, _⟩ := (hf 1 _ y rfl rfl).list_inv Try.underlying31
  exact ⟨m, a, rfl⟩
theorem ty36 {v : V} (h : T36 v) : ∃ (kd : Int) (neg : Bool) (ls : List V) (t : List UInt8) (n : Int) (ks : List V), v = .agg [.int .i64 kd, .agg [.bool neg, .list false ls], .str t, .int .i64 n, .list false ks] ∧ ∀ u ∈ ks, T36 u := by
  obtain ⟨vs, rfl, hl, hf⟩ := h.struct_inv Try.underlying36
  obtain ⟨a, b, c, d, e, rfl⟩ := len5 hl
  obtain ⟨kd, rfl⟩ := ty3 (hf 0 _ a rfl rfl)
  obtain ⟨neg, ls, rfl⟩ := ty33 (hf 1 _ b rfl rfl)
  obtain ⟨t, rfl⟩ := ty9 (hf 2 _ c rfl rfl)
  obtain ⟨n, rfl⟩ := ty3 (hf 3 _ d rfl rfl)
  obtain ⟨ks, rfl, _, hk⟩ := (hf 4 _ e rfl rfl).list_inv Try.underlying34
  exact ⟨kd, neg, ls, t, n, ks, rfl, hk⟩
end GoL
