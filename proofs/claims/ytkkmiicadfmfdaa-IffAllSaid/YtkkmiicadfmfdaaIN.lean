/- A part of the proof: a logic for programs of this kind, proved sound over the model; contracts of functions; plain laws. -/
import Derived.Test.YtkkmiicadfmfdaaID
set_option linter.all false
open Go Go.Proofs
namespace GoL
set_option linter.unusedVariables false
set_option maxRecDepth 100000
theorem n21 (n : Int) (r : V) : wC Try.prog sp21 6 noHint (prsOf []) noLs 0 (bodyOf Try.f21) 1000 (initL [.int .i64 n] 0) [] (finK Try.prog none Try.f21.results.toList r) = (
  ∀ (x0 : Int), x0 = IntKind.wrap IntKind.i64 (0 - n) → ∀ (x2 : Int), x2 = bits BinOp.and IntKind.i64 x0 3 → r = V.int IntKind.i64 x2) := by kernel_rfl
theorem n14 (x n : Int) (r : V) : wC Try.prog sp14 15 noHint (prsOf []) noLs 0 (bodyOf Try.f14) 1000 (initL [.int .i64 x, .int .i64 n] 0) [] (finK Try.prog none Try.f14.results.toList r) = (
  (IntKind.i64 = IntKind.i64 ∧ (n = 0 → False)) ∧ (True → ∀ (x2 : Int), x2 = Int.tmod x n → ∀ (x4 : Bool), x4 = decide (x2 < 0) → (x4 = true → ∀ (x7 : Int), x7 = IntKind.wrap IntKind.i64 (x2 + n) → r = V.int IntKind.i64 x7) ∧ (x4 = false → r = V.int IntKind.i64 x2))) := by kernel_rfl
theorem n23 (vs : List V) (r : V) : wC Try.prog sp23 25 noHint (prsOf [(1, [[], [0], [1, 0], [2, 1, 0], [3, 2, 1, 0], [], [5], [6, 5], [7, 6, 5], [8, 7, 6, 5], [4, 3, 2, 1, 0, 9, 8, 7, 6, 5], [], [11], [12, 11], [13, 12, 11], [14, 13, 12, 11], [10, 4, 3, 2, 1, 0, 9, 8, 7, 6, 5, 15, 14, 13, 12, 11], [], [17], [18, 17], [19, 18, 17], [16, 10, 4, 3, 2, 1, 0, 9, 8, 7, 6, 5, 15, 14, 13, 12, 11, 20, 19, 18, 17], [21, 16, 10, 4, 3, 2, 1, 0, 9, 8, 7, 6, 5, 15, 14, 13, 12, 11, 20, 19, 18, 17]])]) noLs 0 (bodyOf Try.f23) 1000 (initL [.list false vs] 0) [] (finK Try.prog none Try.f23.results.toList r) = (
  Int.ofNat 0 ≤ 0 ∧
    (0 : Int) < ↑(List.length vs) ∧
      ∃ n0,
        getV vs 0 = V.int IntKind.u8 n0 ∧
          true = true ∧
            ∀ (x1 : Int),
              x1 = IntKind.wrap IntKind.i64 n0 →
                Int.ofNat 0 ≤ 24 ∧
                  ∀ (x3 : Int),
                    x3 = IntKind.wrap IntKind.i64 (x1 * 2 ^ 24) →
                      Int.ofNat 0 ≤ 1 ∧
                        (1 : Int) < ↑(List.length vs) ∧
                          ∃ n5,
                            getV vs 1 = V.int IntKind.u8 n5 ∧
                              true = true ∧
                                ∀ (x6 : Int),
                                  x6 = IntKind.wrap IntKind.i64 n5 →
                                    Int.ofNat 0 ≤ 16 ∧
                                      ∀ (x8 : Int),
                                        x8 = IntKind.wrap IntKind.i64 (x6 * 2 ^ 16) →
                                          ∀ (x10 : Int),
                                            x10 = bits BinOp.or IntKind.i64 x3 x8 →
                                              Int.ofNat 0 ≤ 2 ∧
                                                (2 : Int) < ↑(List.length vs) ∧
                                                  ∃ n12,
                                                    getV vs 2 = V.int IntKind.u8 n12 ∧
                                                      true = true ∧
                                                        ∀ (x13 : Int),
                                                          x13 = IntKind.wrap IntKind.i64 n12 →
                                                            Int.ofNat 0 ≤ 8 ∧
                                                              ∀ (x15 : Int),
                                                                x15 = IntKind.wrap IntKind.i64 (x13 * 2 ^ 8) → ∀ (x17 : Int), x17 = bits BinOp.or IntKind.i64 x10 x15 → Int.ofNat 0 ≤ 3 ∧ (3 : Int) < ↑(List.length vs) ∧ ∃ n19, getV vs 3 = V.int IntKind.u8 n19 ∧ true = true ∧ ∀ (x20 : Int), x20 = IntKind.wrap IntKind.i64 n19 → ∀ (x22 : Int), x22 = bits BinOp.or IntKind.i64 x17 x20 → r = V.int IntKind.i64 x22) := by kernel_rfl
theorem n24 (vs : List V) (r : V) : wC Try.prog sp24 25 noHint (prsOf [(1, [[], [0], [1, 0], [2, 1, 0], [3, 2, 1, 0], [], [5], [6, 5], [7, 6, 5], [8, 7, 6, 5], [4, 3, 2, 1, 0, 9, 8, 7, 6, 5], [], [11], [12, 11], [13, 12, 11], [14, 13, 12, 11], [10, 4, 3, 2, 1, 0, 9, 8, 7, 6, 5, 15, 14, 13, 12, 11], [], [17], [18, 17], [19, 18, 17], [16, 10, 4, 3, 2, 1, 0, 9, 8, 7, 6, 5, 15, 14, 13, 12, 11, 20, 19, 18, 17], [21, 16, 10, 4, 3, 2, 1, 0, 9, 8, 7, 6, 5, 15, 14, 13, 12, 11, 20, 19, 18, 17]])]) noLs 0 (bodyOf Try.f24) 1000 (initL [.list false vs] 0) [] (finK Try.prog none Try.f24.results.toList r) = (
  Int.ofNat 0 ≤ 0 ∧
    (0 : Int) < ↑(List.length vs) ∧
      ∃ n0,
        getV vs 0 = V.int IntKind.u8 n0 ∧
          true = true ∧
            ∀ (x1 : Int),
              x1 = IntKind.wrap IntKind.i64 n0 →
                Int.ofNat 0 ≤ 24 ∧
                  ∀ (x3 : Int),
                    x3 = IntKind.wrap IntKind.i64 (x1 * 2 ^ 24) →
                      Int.ofNat 0 ≤ 1 ∧
                        (1 : Int) < ↑(List.length vs) ∧
                          ∃ n5,
                            getV vs 1 = V.int IntKind.u8 n5 ∧
                              true = true ∧
                                ∀ (x6 : Int),
                                  x6 = IntKind.wrap IntKind.i64 n5 →
                                    Int.ofNat 0 ≤ 16 ∧
                                      ∀ (x8 : Int),
                                        x8 = IntKind.wrap IntKind.i64 (x6 * 2 ^ 16) →
                                          ∀ (x10 : Int),
                                            x10 = IntKind.wrap IntKind.i64 (x3 + x8) →
                                              Int.ofNat 0 ≤ 2 ∧
                                                (2 : Int) < ↑(List.length vs) ∧
                                                  ∃ n12,
                                                    getV vs 2 = V.int IntKind.u8 n12 ∧
                                                      true = true ∧
                                                        ∀ (x13 : Int),
                                                          x13 = IntKind.wrap IntKind.i64 n12 →
                                                            Int.ofNat 0 ≤ 8 ∧
                                                              ∀ (x15 : Int),
                                                                x15 = IntKind.wrap IntKind.i64 (x13 * 2 ^ 8) →
                                                                  ∀ (x17 : Int), x17 = IntKind.wrap IntKind.i64 (x10 + x15) → Int.ofNat 0 ≤ 3 ∧ (3 : Int) < ↑(List.length vs) ∧ ∃ n19, getV vs 3 = V.int IntKind.u8 n19 ∧ true = true ∧ ∀ (x20 : Int), x20 = IntKind.wrap IntKind.i64 n19 → ∀ (x22 : Int), x22 = IntKind.wrap IntKind.i64 (x17 + x20) → r = V.int IntKind.i64 x22) := by kernel_rfl
theorem n27 (n : Int) (r : V) : wC Try.prog sp27 15 noHint (prsOf []) noLs 0 (bodyOf Try.f27) 1000 (initL [.int .i64 n] 0) [] (finK Try.prog none Try.f27.results.toList r) = (
  Int.ofNat 0 ≤ 24 ∧
    (True →
      ∀ (x1 : Int),
        x1 = Int.fdiv n (2 ^ 24) →
          true = true ∧
            (True →
              ∀ (x4 : Int),
                x4 = IntKind.wrap IntKind.u8 x1 →
                  Int.ofNat 0 ≤ 16 ∧
                    (True →
                      ∀ (x7 : Int),
                        x7 = Int.fdiv n (2 ^ 16) →
                          true = true ∧
                            (True →
                              ∀ (x10 : Int),
                                x10 = IntKind.wrap IntKind.u8 x7 →
                                  Int.ofNat 0 ≤ 8 ∧
                                    (True →
                                      ∀ (x13 : Int),
                                        x13 = Int.fdiv n (2 ^ 8) →
                                          true = true ∧
                                            (True → ∀ (x16 : Int), x16 = IntKind.wrap IntKind.u8 x13 → true = true ∧ (True → ∀ (x19 : Int), x19 = IntKind.wrap IntKind.u8 n → 4 = List.length [V.int IntKind.u8 x4, V.int IntKind.u8 x10, V.int IntKind.u8 x16, V.int IntKind.u8 x19] ∧ r = V.list false [V.int IntKind.u8 x4, V.int IntKind.u8 x10, V.int IntKind.u8 x16, V.int IntKind.u8 x19])))))))) := by kernel_rfl
theorem n13 (vs : List V) (r : V) : wC Try.prog sp13 5 noHint (prsOf []) noLs 0 (bodyOf Try.f13) 1000 (initL [.list false vs] 0) [] (finK Try.prog none Try.f13.results.toList r) = (
  (((true || false) = true ∧ True) ∧ (∀ (v0 : V), List.Mem v0 vs → V.sz v0 = 1) ∧ some 1 = some 1 ∧ true = true ∧ ∃ b2, some 1 = some b2 ∧ List.length vs * b2 ≤ 140737488355328 ∧ List.length vs ≤ 9223372036854775807) ∧ (True → List.length vs = List.length vs ∧ r = V.list false vs)) := by kernel_rfl
theorem n29 (n d x : List UInt8) (r : V) : wC Try.prog sp29 8 noHint (prsOf []) noLs 0 (bodyOf Try.f29) 1000 (initL [.agg [.str n, .str d], .dptr (.str x)] 0) [] (finK Try.prog none Try.f29.results.toList r) = (
  ∀ (x0 : Bool), x0 = (n == x) → r = V.bool x0) := by kernel_rfl
theorem n31 (n d x : List UInt8) (r : V) : wC Try.prog sp31 8 noHint (prsOf []) noLs 0 (bodyOf Try.f31) 1000 (initL [.agg [.str n, .str d], .dptr (.str x)] 0) [] (finK Try.prog none Try.f31.results.toList r) = (
  ∀ (x0 : Bool), x0 = (n == x) → r = V.bool x0) := by kernel_rfl
theorem n22a (vs : List V) (n : Int) (r : V) (ks : List Blk) : wC Try.prog sp22 19 noHint (prsOf []) noLs 0 (bodyOf Try.f22) 1000 (initL [.list true vs, .int .i64 n] 0) [] (finH Try.prog none Try.f22.results.toList [1014] fun v bs => r = v ∧ ks = bs) = (
  Int.ofNat 0 ≤ 24 ∧
    (True →
      ∀ (x1 : Int),
        x1 = Int.fdiv n (2 ^ 24) →
          true = true ∧
            (True →
              ∀ (x4 : Int),
                x4 = IntKind.wrap IntKind.u8 x1 →
                  Int.ofNat 0 ≤ 16 ∧
                    (True →
                      ∀ (x7 : Int),
                        x7 = Int.fdiv n (2 ^ 16) →
                          true = true ∧
                            (True →
                              ∀ (x10 : Int),
                                x10 = IntKind.wrap IntKind.u8 x7 →
                                  Int.ofNat 0 ≤ 8 ∧
                                    (True →
                                      ∀ (x13 : Int),
                                        x13 = Int.fdiv n (2 ^ 8) →
                                          true = true ∧
                                            (True →
                                              ∀ (x16 : Int),
                                                x16 = IntKind.wrap IntKind.u8 x13 →
                                                  true = true ∧
                                                    (True →
                                                      ∀ (x19 : Int),
                                                        x19 = IntKind.wrap IntKind.u8 n →
                                                          (((true || false) = true ∧ 4 = List.length [V.int IntKind.u8 x4, V.int IntKind.u8 x10, V.int IntKind.u8 x16, V.int IntKind.u8 x19]) ∧
                                                              [V.int IntKind.u8 x4, V.int IntKind.u8 x10, V.int IntKind.u8 x16, V.int IntKind.u8 x19] ≠ [] ∧
                                                                (∀ (v21 : V), List.Mem v21 (vs ++ [V.int IntKind.u8 x4, V.int IntKind.u8 x10, V.int IntKind.u8 x16, V.int IntKind.u8 x19]) → V.sz v21 = 1) ∧
                                                                  some 1 = some 1 ∧
                                                                    true = true ∧ ∃ b23, some 1 = some b23 ∧ (List.length vs + List.length [V.int IntKind.u8 x4, V.int IntKind.u8 x10, V.int IntKind.u8 x16, V.int IntKind.u8 x19]) * b23 ≤ 140737488355328 ∧ List.length vs + List.length [V.int IntKind.u8 x4, V.int IntKind.u8 x10, V.int IntKind.u8 x16, V.int IntKind.u8 x19] ≤ 9223372036854775807) ∧
                                                            (True → r = V.sl 1014 (List.length vs + List.length [V.int IntKind.u8 x4, V.int IntKind.u8 x10, V.int IntKind.u8 x16, V.int IntKind.u8 x19]) ∧ ks = [{ arr := some 5, fz := false, t := V.agg (vs ++ [V.int IntKind.u8 x4, V.int IntKind.u8 x10, V.int IntKind.u8 x16, V.int IntKind.u8 x19]) }]))))))))) := by kernel_rfl
theorem n22b (vs : List V) (n : Int) (r : V) (ks : List Blk) : wC Try.prog sp22 19 noHint (prsOf []) noLs 0 (bodyOf Try.f22) 1000 (initL [.sl 0 vs.length, .int .i64 n] 0) [(0, ⟨some 5, false, .agg vs⟩)] (finH Try.prog none Try.f22.results.toList [0] fun v bs => r = v ∧ ks = bs) = (
  Int.ofNat 0 ≤ 24 ∧
    (True →
      ∀ (x1 : Int),
        x1 = Int.fdiv n (2 ^ 24) →
          true = true ∧
            (True →
              ∀ (x4 : Int),
                x4 = IntKind.wrap IntKind.u8 x1 →
                  Int.ofNat 0 ≤ 16 ∧
                    (True →
                      ∀ (x7 : Int),
                        x7 = Int.fdiv n (2 ^ 16) →
                          true = true ∧
                            (True →
                              ∀ (x10 : Int),
                                x10 = IntKind.wrap IntKind.u8 x7 →
                                  Int.ofNat 0 ≤ 8 ∧
                                    (True →
                                      ∀ (x13 : Int),
                                        x13 = Int.fdiv n (2 ^ 8) →
                                          true = true ∧
                                            (True →
                                              ∀ (x16 : Int),
                                                x16 = IntKind.wrap IntKind.u8 x13 →
                                                  true = true ∧
                                                    (True →
                                                      ∀ (x19 : Int),
                                                        x19 = IntKind.wrap IntKind.u8 n →
                                                          (List.length vs = List.length vs ∧
                                                              5 = 5 ∧
                                                                ((true || false) = true ∧ 4 = List.length [V.int IntKind.u8 x4, V.int IntKind.u8 x10, V.int IntKind.u8 x16, V.int IntKind.u8 x19]) ∧
                                                                  (∀ (v21 : V), List.Mem v21 [V.int IntKind.u8 x4, V.int IntKind.u8 x10, V.int IntKind.u8 x16, V.int IntKind.u8 x19] → V.sz v21 = 1) ∧
                                                                    some 1 = some 1 ∧
                                                                      true = true ∧ ∃ b23, some 1 = some b23 ∧ (List.length vs + List.length [V.int IntKind.u8 x4, V.int IntKind.u8 x10, V.int IntKind.u8 x16, V.int IntKind.u8 x19]) * b23 ≤ 140737488355328 ∧ List.length vs + List.length [V.int IntKind.u8 x4, V.int IntKind.u8 x10, V.int IntKind.u8 x16, V.int IntKind.u8 x19] ≤ 9223372036854775807) ∧
                                                            (True → r = V.sl 0 (List.length vs + List.length [V.int IntKind.u8 x4, V.int IntKind.u8 x10, V.int IntKind.u8 x16, V.int IntKind.u8 x19]) ∧ ks = [{ arr := some 5, fz := false, t := V.agg (vs ++ [V.int IntKind.u8 x4, V.int IntKind.u8 x10, V.int IntKind.u8 x16, V.int IntKind.u8 x19]) }]))))))))) := by kernel_rfl
end GoL
