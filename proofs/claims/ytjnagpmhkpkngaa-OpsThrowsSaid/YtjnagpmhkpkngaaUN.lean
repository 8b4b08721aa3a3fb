/- A part of the proof: a logic for programs of this kind, proved sound over the model; contracts of functions; plain laws. -/
import Derived.Test.YtjnagpmhkpkngaaUD
set_option linter.all false
open Go Go.Proofs
namespace GoL
set_option linter.unusedVariables false
set_option maxRecDepth 100000
theorem n25 (op : Int) (xs : List V) (r : V) : wC Try.prog sp25 31 noHint (prsOf []) noLs 0 (bodyOf Try.f25) 1000 (initL [.agg [.int .i64 op, .list false xs]] 0) [] (finK Try.prog none Try.f25.results.toList r) = (
  (List.length xs = List.length (sigS op) → fitOk (sigS op) xs) ∧
    ∀ (x1 : Bool),
      x1 = !fitsB op xs →
        (x1 = true → r = V.bool false) ∧
          (x1 = false →
            ∀ (x5 : Bool),
              x5 = (op == 2) →
                (x5 = true → r = V.bool true) ∧
                  (x5 = false →
                    ∀ (x9 : Bool),
                      x9 = (op == 6) →
                        (x9 = true → r = V.bool true) ∧
                          (x9 = false →
                            ∀ (x13 : Bool),
                              x13 = (op == 9) →
                                (x13 = true → r = V.bool true) ∧
                                  (x13 = false →
                                    ∀ (x17 : Bool),
                                      x17 = (op == 10) →
                                        (x17 = true → r = V.bool true) ∧
                                          (x17 = false →
                                            ∀ (x21 : Bool),
                                              x21 = (op == 17) →
                                                (x21 = true → r = V.bool true) ∧
                                                  (x21 = false →
                                                    ∀ (x25 : Bool),
                                                      x25 = (op == 18) →
                                                        (x25 = true → r = V.bool true) ∧
                                                          (x25 = false →
                                                            ∀ (x29 : Bool),
                                                              x29 = (op == 43) →
                                                                (x29 = true → r = V.bool true) ∧
                                                                  (x29 = false →
                                                                    ∀ (x33 : Bool),
                                                                      x33 = (op == 44) →
                                                                        (x33 = true → r = V.bool true) ∧
                                                                          (x33 = false →
                                                                            ∀ (x37 : Bool),
                                                                              x37 = (op == 48) →
                                                                                (x37 = true → r = V.bool true) ∧
                                                                                  (x37 = false →
                                                                                    ∀ (x41 : Bool),
                                                                                      x41 = (op == 49) →
                                                                                        (x41 = true → r = V.bool true) ∧
                                                                                          (x41 = false →
                                                                                            ∀ (x45 : Bool),
                                                                                              x45 = (op == 50) →
                                                                                                (x45 = true → r = V.bool true) ∧
                                                                                                  (x45 = false →
                                                                                                    ∀ (x49 : Bool),
                                                                                                      x49 = (op == 51) →
                                                                                                        (x49 = true → r = V.bool true) ∧
                                                                                                          (x49 = false →
                                                                                                            ∀ (x53 : Bool),
                                                                                                              x53 = (op == 35) →
                                                                                                                (x53 = true → Int.ofNat 0 ≤ 0 ∧ (0 : Int) < ↑(List.length xs) ∧ ∃ n56 n57 l58, getV xs 0 = V.agg [V.int IntKind.i64 n56, V.int IntKind.i64 n57, V.list false l58] ∧ ∀ (x59 : Bool), x59 = (n57 == 0) → r = V.bool x59) ∧
                                                                                                                  (x53 = false →
                                                                                                                    ∀ (x62 : Bool),
                                                                                                                      x62 = (op == 36) →
                                                                                                                        (x62 = true → Int.ofNat 0 ≤ 0 ∧ (0 : Int) < ↑(List.length xs) ∧ ∃ n65 n66 l67, getV xs 0 = V.agg [V.int IntKind.i64 n65, V.int IntKind.i64 n66, V.list false l67] ∧ ∀ (x68 : Bool), x68 = (n66 == 0) → r = V.bool x68) ∧
                                                                                                                          (x62 = false →
                                                                                                                            ∀ (x71 : Bool),
                                                                                                                              x71 = (op == 37) → (x71 = true → Int.ofNat 0 ≤ 0 ∧ (0 : Int) < ↑(List.length xs) ∧ ∃ n74 n75 l76, getV xs 0 = V.agg [V.int IntKind.i64 n74, V.int IntKind.i64 n75, V.list false l76] ∧ ∀ (x77 : Bool), x77 = (n75 == 0) → r = V.bool x77) ∧ (x71 = false → r = V.bool false))))))))))))))))) := by kernel_rfl
theorem n7 (x y : Int) (r : V) : wC Try.prog sp7 57 noHint (prsOf []) noLs 0 (bodyOf Try.f7) 1000 (initL [.int .i64 x, .int .i64 y] 0) [] (finK Try.prog none Try.f7.results.toList r) = (
  Int.ofNat 3 ≠ 0 ∧
    Int.ofNat 5 ≠ 0 ∧
      ((∀ (v0 : V),
            List.Mem v0
                [V.agg [V.int IntKind.i64 5, V.int IntKind.i64 (place y 5), V.list false []], V.agg [V.int IntKind.i64 0, V.int IntKind.i64 0, V.list false []], V.agg [V.int IntKind.i64 0, V.int IntKind.i64 1, V.list false []], V.agg [V.int IntKind.i64 1, V.int IntKind.i64 1, V.list false []], V.agg [V.int IntKind.i64 1, V.int IntKind.i64 2, V.list false []],
                  V.agg [V.int IntKind.i64 3, V.int IntKind.i64 0, V.list false []]] →
              V.sz v0 = 3) ∧
          List.length
              [V.agg [V.int IntKind.i64 5, V.int IntKind.i64 (place y 5), V.list false []], V.agg [V.int IntKind.i64 0, V.int IntKind.i64 0, V.list false []], V.agg [V.int IntKind.i64 0, V.int IntKind.i64 1, V.list false []], V.agg [V.int IntKind.i64 1, V.int IntKind.i64 1, V.list false []], V.agg [V.int IntKind.i64 1, V.int IntKind.i64 2, V.list false []],
                V.agg [V.int IntKind.i64 3, V.int IntKind.i64 0, V.list false []]] ≤
            1000) ∧
        ((∀ (v2 : V), List.Mem v2 [V.agg [V.int IntKind.i64 5, V.int IntKind.i64 (place y 5), V.list false []], V.agg [V.int IntKind.i64 0, V.int IntKind.i64 1, V.list false []], V.agg [V.int IntKind.i64 3, V.int IntKind.i64 0, V.list false []], V.agg [V.int IntKind.i64 3, V.int IntKind.i64 0, V.list false []]] → V.sz v2 = 3) ∧
            List.length [V.agg [V.int IntKind.i64 5, V.int IntKind.i64 (place y 5), V.list false []], V.agg [V.int IntKind.i64 0, V.int IntKind.i64 1, V.list false []], V.agg [V.int IntKind.i64 3, V.int IntKind.i64 0, V.list false []], V.agg [V.int IntKind.i64 3, V.int IntKind.i64 0, V.list false []]] ≤ 1000) ∧
          ((∀ (v4 : V), List.Mem v4 [V.agg [V.int IntKind.i64 5, V.int IntKind.i64 (place y 5), V.list false []], V.agg [V.int IntKind.i64 0, V.int IntKind.i64 1, V.list false []], V.agg [V.int IntKind.i64 3, V.int IntKind.i64 0, V.list false []], V.agg [V.int IntKind.i64 3, V.int IntKind.i64 1, V.list false []], V.agg [V.int IntKind.i64 3, V.int IntKind.i64 0, V.list false []]] → V.sz v4 = 3) ∧
              List.length [V.agg [V.int IntKind.i64 5, V.int IntKind.i64 (place y 5), V.list false []], V.agg [V.int IntKind.i64 0, V.int IntKind.i64 1, V.list false []], V.agg [V.int IntKind.i64 3, V.int IntKind.i64 0, V.list false []], V.agg [V.int IntKind.i64 3, V.int IntKind.i64 1, V.list false []], V.agg [V.int IntKind.i64 3, V.int IntKind.i64 0, V.list false []]] ≤ 1000) ∧
            0 ≤ place x 3 ∧
              place x 3 < ↑3 ∧
                place x 3 <
                    ↑(List.length
                        [V.agg
                            [V.int IntKind.i64 35,
                              V.list false
                                [V.agg [V.int IntKind.i64 5, V.int IntKind.i64 (place y 5), V.list false []], V.agg [V.int IntKind.i64 0, V.int IntKind.i64 0, V.list false []], V.agg [V.int IntKind.i64 0, V.int IntKind.i64 1, V.list false []], V.agg [V.int IntKind.i64 1, V.int IntKind.i64 1, V.list false []], V.agg [V.int IntKind.i64 1, V.int IntKind.i64 2, V.list false []],
                                  V.agg [V.int IntKind.i64 3, V.int IntKind.i64 0, V.list false []]]],
                          V.agg [V.int IntKind.i64 36, V.list false [V.agg [V.int IntKind.i64 5, V.int IntKind.i64 (place y 5), V.list false []], V.agg [V.int IntKind.i64 0, V.int IntKind.i64 1, V.list false []], V.agg [V.int IntKind.i64 3, V.int IntKind.i64 0, V.list false []], V.agg [V.int IntKind.i64 3, V.int IntKind.i64 0, V.list false []]]],
                          V.agg
                            [V.int IntKind.i64 37,
                              V.list false [V.agg [V.int IntKind.i64 5, V.int IntKind.i64 (place y 5), V.list false []], V.agg [V.int IntKind.i64 0, V.int IntKind.i64 1, V.list false []], V.agg [V.int IntKind.i64 3, V.int IntKind.i64 0, V.list false []], V.agg [V.int IntKind.i64 3, V.int IntKind.i64 1, V.list false []], V.agg [V.int IntKind.i64 3, V.int IntKind.i64 0, V.list false []]]]]) ∧
                  V.szs
                        (List.take (Int.toNat (place x 3))
                          [V.agg
                              [V.int IntKind.i64 35,
                                V.list false
                                  [V.agg [V.int IntKind.i64 5, V.int IntKind.i64 (place y 5), V.list false []], V.agg [V.int IntKind.i64 0, V.int IntKind.i64 0, V.list false []], V.agg [V.int IntKind.i64 0, V.int IntKind.i64 1, V.list false []], V.agg [V.int IntKind.i64 1, V.int IntKind.i64 1, V.list false []], V.agg [V.int IntKind.i64 1, V.int IntKind.i64 2, V.list false []],
                                    V.agg [V.int IntKind.i64 3, V.int IntKind.i64 0, V.list false []]]],
                            V.agg [V.int IntKind.i64 36, V.list false [V.agg [V.int IntKind.i64 5, V.int IntKind.i64 (place y 5), V.list false []], V.agg [V.int IntKind.i64 0, V.int IntKind.i64 1, V.list false []], V.agg [V.int IntKind.i64 3, V.int IntKind.i64 0, V.list false []], V.agg [V.int IntKind.i64 3, V.int IntKind.i64 0, V.list false []]]],
                            V.agg
                              [V.int IntKind.i64 37,
                                V.list false [V.agg [V.int IntKind.i64 5, V.int IntKind.i64 (place y 5), V.list false []], V.agg [V.int IntKind.i64 0, V.int IntKind.i64 1, V.list false []], V.agg [V.int IntKind.i64 3, V.int IntKind.i64 0, V.list false []], V.agg [V.int IntKind.i64 3, V.int IntKind.i64 1, V.list false []], V.agg [V.int IntKind.i64 3, V.int IntKind.i64 0, V.list false []]]]]) =
                      Int.toNat (place x 3) * 2 ∧
                    ∃ n6 l7,
                      getV
                            [V.agg
                                [V.int IntKind.i64 35,
                                  V.list false
                                    [V.agg [V.int IntKind.i64 5, V.int IntKind.i64 (place y 5), V.list false []], V.agg [V.int IntKind.i64 0, V.int IntKind.i64 0, V.list false []], V.agg [V.int IntKind.i64 0, V.int IntKind.i64 1, V.list false []], V.agg [V.int IntKind.i64 1, V.int IntKind.i64 1, V.list false []], V.agg [V.int IntKind.i64 1, V.int IntKind.i64 2, V.list false []],
                                      V.agg [V.int IntKind.i64 3, V.int IntKind.i64 0, V.list false []]]],
                              V.agg [V.int IntKind.i64 36, V.list false [V.agg [V.int IntKind.i64 5, V.int IntKind.i64 (place y 5), V.list false []], V.agg [V.int IntKind.i64 0, V.int IntKind.i64 1, V.list false []], V.agg [V.int IntKind.i64 3, V.int IntKind.i64 0, V.list false []], V.agg [V.int IntKind.i64 3, V.int IntKind.i64 0, V.list false []]]],
                              V.agg
                                [V.int IntKind.i64 37,
                                  V.list false [V.agg [V.int IntKind.i64 5, V.int IntKind.i64 (place y 5), V.list false []], V.agg [V.int IntKind.i64 0, V.int IntKind.i64 1, V.list false []], V.agg [V.int IntKind.i64 3, V.int IntKind.i64 0, V.list false []], V.agg [V.int IntKind.i64 3, V.int IntKind.i64 1, V.list false []], V.agg [V.int IntKind.i64 3, V.int IntKind.i64 0, V.list false []]]]]
                            (place x 3) =
                          V.agg [V.int IntKind.i64 n6, V.list false l7] ∧
                        (List.length l7 = List.length (sigS n6) → fitOk (sigS n6) l7) ∧
                          (fitsB n6 l7 = true → (List.length l7 = List.length (sigS n6) → fitOk (sigS n6) l7) ∧ ∀ (x11 : Bool), x11 = (place y 5 == 0) → ∀ (x13 : Bool), x13 = (throwsB n6 l7 == x11) → (x13 = true → ∀ (x16 : Bool), x16 = !endS n6 → (x16 = true → r = V.bool true) ∧ (x16 = false → r = V.bool false)) ∧ (x13 = false → r = V.bool false)) ∧ (fitsB n6 l7 = false → r = V.bool false)) := by kernel_rfl
end GoL
