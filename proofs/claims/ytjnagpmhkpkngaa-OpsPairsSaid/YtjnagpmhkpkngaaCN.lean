/- A part of the proof: a logic for programs of this kind, proved sound over the model; contracts of functions; plain laws. -/
import Derived.Test.YtjnagpmhkpkngaaCD
set_option linter.all false
open Go Go.Proofs
namespace GoL
set_option linter.unusedVariables false
set_option maxRecDepth 100000
theorem n25g (op : Int) (xs : List V) (r : V) : wC Try.prog sp25g 31 noHint (prsOf []) noLs 0 (bodyOf Try.f25) 1000 (initL [.agg [.int .i64 op, .list false xs]] 0) [] (finK Try.prog none Try.f25.results.toList r) = (
  (∀ (u0 : V), List.Mem u0 xs → Typed Try.prog 140737488351232 28 u0) ∧
    ∀ (x2 : Bool),
      x2 = !fitsG op xs →
        (x2 = true → r = V.bool false) ∧
          (x2 = false →
            ∀ (x6 : Bool),
              x6 = (op == 2) →
                (x6 = true → r = V.bool true) ∧
                  (x6 = false →
                    ∀ (x10 : Bool),
                      x10 = (op == 6) →
                        (x10 = true → r = V.bool true) ∧
                          (x10 = false →
                            ∀ (x14 : Bool),
                              x14 = (op == 9) →
                                (x14 = true → r = V.bool true) ∧
                                  (x14 = false →
                                    ∀ (x18 : Bool),
                                      x18 = (op == 10) →
                                        (x18 = true → r = V.bool true) ∧
                                          (x18 = false →
                                            ∀ (x22 : Bool),
                                              x22 = (op == 17) →
                                                (x22 = true → r = V.bool true) ∧
                                                  (x22 = false →
                                                    ∀ (x26 : Bool),
                                                      x26 = (op == 18) →
                                                        (x26 = true → r = V.bool true) ∧
                                                          (x26 = false →
                                                            ∀ (x30 : Bool),
                                                              x30 = (op == 43) →
                                                                (x30 = true → r = V.bool true) ∧
                                                                  (x30 = false →
                                                                    ∀ (x34 : Bool),
                                                                      x34 = (op == 44) →
                                                                        (x34 = true → r = V.bool true) ∧
                                                                          (x34 = false →
                                                                            ∀ (x38 : Bool),
                                                                              x38 = (op == 48) →
                                                                                (x38 = true → r = V.bool true) ∧
                                                                                  (x38 = false →
                                                                                    ∀ (x42 : Bool),
                                                                                      x42 = (op == 49) →
                                                                                        (x42 = true → r = V.bool true) ∧
                                                                                          (x42 = false →
                                                                                            ∀ (x46 : Bool),
                                                                                              x46 = (op == 50) →
                                                                                                (x46 = true → r = V.bool true) ∧
                                                                                                  (x46 = false →
                                                                                                    ∀ (x50 : Bool),
                                                                                                      x50 = (op == 51) →
                                                                                                        (x50 = true → r = V.bool true) ∧
                                                                                                          (x50 = false →
                                                                                                            ∀ (x54 : Bool),
                                                                                                              x54 = (op == 35) →
                                                                                                                (x54 = true → Int.ofNat 0 ≤ 0 ∧ (0 : Int) < ↑(List.length xs) ∧ ∃ n57 n58 l59, getV xs 0 = V.agg [V.int IntKind.i64 n57, V.int IntKind.i64 n58, V.list false l59] ∧ ∀ (x60 : Bool), x60 = (n58 == 0) → r = V.bool x60) ∧
                                                                                                                  (x54 = false →
                                                                                                                    ∀ (x63 : Bool),
                                                                                                                      x63 = (op == 36) →
                                                                                                                        (x63 = true → Int.ofNat 0 ≤ 0 ∧ (0 : Int) < ↑(List.length xs) ∧ ∃ n66 n67 l68, getV xs 0 = V.agg [V.int IntKind.i64 n66, V.int IntKind.i64 n67, V.list false l68] ∧ ∀ (x69 : Bool), x69 = (n67 == 0) → r = V.bool x69) ∧
                                                                                                                          (x63 = false →
                                                                                                                            ∀ (x72 : Bool),
                                                                                                                              x72 = (op == 37) → (x72 = true → Int.ofNat 0 ≤ 0 ∧ (0 : Int) < ↑(List.length xs) ∧ ∃ n75 n76 l77, getV xs 0 = V.agg [V.int IntKind.i64 n75, V.int IntKind.i64 n76, V.list false l77] ∧ ∀ (x78 : Bool), x78 = (n76 == 0) → r = V.bool x78) ∧ (x72 = false → r = V.bool false))))))))))))))))) := by kernel_rfl
theorem n26 (op : Int) (xs : List V) (r : V) : wC Try.prog sp26 31 noHint (prsOf []) noLs 0 (bodyOf Try.f26) 1000 (initL [.agg [.int .i64 op, .list false xs]] 0) [] (finK Try.prog none Try.f26.results.toList r) = (
  (∀ (u0 : V), List.Mem u0 xs → Typed Try.prog 140737488351232 28 u0) ∧
    ∀ (x2 : Bool),
      x2 = !fitsR op xs →
        (x2 = true → r = V.bool false) ∧
          (x2 = false →
            ∀ (x6 : Bool),
              x6 = (op == 2) →
                (x6 = true → r = V.bool true) ∧
                  (x6 = false →
                    ∀ (x10 : Bool),
                      x10 = (op == 6) →
                        (x10 = true → r = V.bool true) ∧
                          (x10 = false →
                            ∀ (x14 : Bool),
                              x14 = (op == 9) →
                                (x14 = true → r = V.bool true) ∧
                                  (x14 = false →
                                    ∀ (x18 : Bool),
                                      x18 = (op == 10) →
                                        (x18 = true → r = V.bool true) ∧
                                          (x18 = false →
                                            ∀ (x22 : Bool),
                                              x22 = (op == 17) →
                                                (x22 = true → r = V.bool true) ∧
                                                  (x22 = false →
                                                    ∀ (x26 : Bool),
                                                      x26 = (op == 18) →
                                                        (x26 = true → r = V.bool true) ∧
                                                          (x26 = false →
                                                            ∀ (x30 : Bool),
                                                              x30 = (op == 43) →
                                                                (x30 = true → r = V.bool true) ∧
                                                                  (x30 = false →
                                                                    ∀ (x34 : Bool),
                                                                      x34 = (op == 44) →
                                                                        (x34 = true → r = V.bool true) ∧
                                                                          (x34 = false →
                                                                            ∀ (x38 : Bool),
                                                                              x38 = (op == 48) →
                                                                                (x38 = true → r = V.bool true) ∧
                                                                                  (x38 = false →
                                                                                    ∀ (x42 : Bool),
                                                                                      x42 = (op == 49) →
                                                                                        (x42 = true → r = V.bool true) ∧
                                                                                          (x42 = false →
                                                                                            ∀ (x46 : Bool),
                                                                                              x46 = (op == 50) →
                                                                                                (x46 = true → r = V.bool true) ∧
                                                                                                  (x46 = false →
                                                                                                    ∀ (x50 : Bool),
                                                                                                      x50 = (op == 51) →
                                                                                                        (x50 = true → r = V.bool true) ∧
                                                                                                          (x50 = false →
                                                                                                            ∀ (x54 : Bool),
                                                                                                              x54 = (op == 35) →
                                                                                                                (x54 = true → Int.ofNat 0 ≤ 0 ∧ (0 : Int) < ↑(List.length xs) ∧ ∃ n57 n58 l59, getV xs 0 = V.agg [V.int IntKind.i64 n57, V.int IntKind.i64 n58, V.list false l59] ∧ ∀ (x60 : Bool), x60 = (n58 == 0) → r = V.bool x60) ∧
                                                                                                                  (x54 = false →
                                                                                                                    ∀ (x63 : Bool),
                                                                                                                      x63 = (op == 36) →
                                                                                                                        (x63 = true → Int.ofNat 0 ≤ 0 ∧ (0 : Int) < ↑(List.length xs) ∧ ∃ n66 n67 l68, getV xs 0 = V.agg [V.int IntKind.i64 n66, V.int IntKind.i64 n67, V.list false l68] ∧ ∀ (x69 : Bool), x69 = (n67 == 0) → r = V.bool x69) ∧
                                                                                                                          (x63 = false →
                                                                                                                            ∀ (x72 : Bool),
                                                                                                                              x72 = (op == 37) → (x72 = true → Int.ofNat 0 ≤ 0 ∧ (0 : Int) < ↑(List.length xs) ∧ ∃ n75 n76 l77, getV xs 0 = V.agg [V.int IntKind.i64 n75, V.int IntKind.i64 n76, V.list false l77] ∧ ∀ (x78 : Bool), x78 = (n76 == 0) → r = V.bool x78) ∧ (x72 = false → r = V.bool false))))))))))))))))) := by kernel_rfl
theorem n10g (op : Int) (r : V) : wC Try.prog sp10 14 (hintOf [(4002, 1)]) (prsOf []) noLs 0 (bodyOf Try.f10) 1000 (initL [.int .i64 op] 0) [] (finK Try.prog none Try.f10.results.toList r) = (
  ∀ (x0 : Bool),
    x0 = decide (op < 0) →
      (x0 = true → r = V.str []) ∧
        (x0 = false →
          ∀ (x4 : Bool),
            x4 = decide (op ≥ 52) →
              (x4 = true → r = V.str []) ∧
                (x4 = false →
                  0 ≤ op ∧
                    op < ↑52 ∧
                      ∃ s8,
                        subQ
                              (V.agg
                                [V.str [], V.str [108, 97, 98, 101, 108], V.str [102, 117, 110, 99, 95, 105, 110, 102, 111], V.str [101, 110, 100], V.str [109, 111, 118, 101], V.str [106, 117, 109, 112], V.str [99, 97, 108, 108], V.str [99, 97, 108, 108, 95, 111, 110, 108, 121], V.str [99, 97, 108, 108, 95, 108, 97, 115, 116], V.str [99, 97, 108, 108, 95, 101, 120, 116],
                                  V.str [99, 97, 108, 108, 95, 102, 117, 110], V.str [114, 101, 116, 117, 114, 110], V.str [97, 108, 108, 111, 99, 97, 116, 101], V.str [100, 101, 97, 108, 108, 111, 99, 97, 116, 101], V.str [116, 114, 105, 109], V.str [105, 110, 105, 116], V.str [116, 101, 115, 116, 95, 104, 101, 97, 112], V.str [112, 117, 116, 95, 108, 105, 115, 116],
                                  V.str [112, 117, 116, 95, 116, 117, 112, 108, 101], V.str [103, 101, 116, 95, 108, 105, 115, 116], V.str [103, 101, 116, 95, 101, 108, 101, 109, 101, 110, 116], V.str [105, 115, 95, 105, 110, 116], V.str [105, 115, 95, 97, 116, 111, 109], V.str [105, 115, 95, 110, 105, 108], V.str [105, 115, 95, 99, 111, 110, 115], V.str [105, 115, 95, 116, 117, 112, 108, 101],
                                  V.str [105, 115, 95, 98, 105, 110], V.str [105, 115, 95, 102, 117, 110], V.str [116, 101, 115, 116, 95, 97, 114, 105, 116, 121], V.str [105, 115, 95, 108, 116], V.str [105, 115, 95, 103, 101], V.str [105, 115, 95, 101, 113], V.str [105, 115, 95, 110, 101], V.str [115, 101, 108, 101, 99, 116], V.str [115, 119, 97, 112], V.str [103, 99, 95, 111, 112],
                                  V.str [98, 105, 102, 49], V.str [98, 105, 102, 50], V.str [98, 115, 95, 115, 116, 97, 114, 116], V.str [98, 115, 95, 105, 110, 116], V.str [98, 115, 95, 98, 105, 110], V.str [98, 115, 95, 114, 101, 115, 116], V.str [98, 115, 95, 116, 97, 105, 108], V.str [98, 115, 95, 109, 97, 107, 101], V.str [109, 97, 107, 101, 95, 102, 117, 110], V.str [116, 114, 121],
                                  V.str [116, 114, 121, 95, 101, 110, 100], V.str [116, 114, 121, 95, 99, 97, 115, 101], V.str [114, 97, 105, 115, 101], V.str [98, 97, 100, 109, 97, 116, 99, 104], V.str [99, 97, 115, 101, 95, 101, 110, 100], V.str [105, 102, 95, 101, 110, 100]])
                              [Int.toNat op] =
                            some (V.str s8) ∧
                          offQ
                                (V.agg
                                  [V.str [], V.str [108, 97, 98, 101, 108], V.str [102, 117, 110, 99, 95, 105, 110, 102, 111], V.str [101, 110, 100], V.str [109, 111, 118, 101], V.str [106, 117, 109, 112], V.str [99, 97, 108, 108], V.str [99, 97, 108, 108, 95, 111, 110, 108, 121], V.str [99, 97, 108, 108, 95, 108, 97, 115, 116], V.str [99, 97, 108, 108, 95, 101, 120, 116],
                                    V.str [99, 97, 108, 108, 95, 102, 117, 110], V.str [114, 101, 116, 117, 114, 110], V.str [97, 108, 108, 111, 99, 97, 116, 101], V.str [100, 101, 97, 108, 108, 111, 99, 97, 116, 101], V.str [116, 114, 105, 109], V.str [105, 110, 105, 116], V.str [116, 101, 115, 116, 95, 104, 101, 97, 112], V.str [112, 117, 116, 95, 108, 105, 115, 116],
                                    V.str [112, 117, 116, 95, 116, 117, 112, 108, 101], V.str [103, 101, 116, 95, 108, 105, 115, 116], V.str [103, 101, 116, 95, 101, 108, 101, 109, 101, 110, 116], V.str [105, 115, 95, 105, 110, 116], V.str [105, 115, 95, 97, 116, 111, 109], V.str [105, 115, 95, 110, 105, 108], V.str [105, 115, 95, 99, 111, 110, 115], V.str [105, 115, 95, 116, 117, 112, 108, 101],
                                    V.str [105, 115, 95, 98, 105, 110], V.str [105, 115, 95, 102, 117, 110], V.str [116, 101, 115, 116, 95, 97, 114, 105, 116, 121], V.str [105, 115, 95, 108, 116], V.str [105, 115, 95, 103, 101], V.str [105, 115, 95, 101, 113], V.str [105, 115, 95, 110, 101], V.str [115, 101, 108, 101, 99, 116], V.str [115, 119, 97, 112], V.str [103, 99, 95, 111, 112],
                                    V.str [98, 105, 102, 49], V.str [98, 105, 102, 50], V.str [98, 115, 95, 115, 116, 97, 114, 116], V.str [98, 115, 95, 105, 110, 116], V.str [98, 115, 95, 98, 105, 110], V.str [98, 115, 95, 114, 101, 115, 116], V.str [98, 115, 95, 116, 97, 105, 108], V.str [98, 115, 95, 109, 97, 107, 101], V.str [109, 97, 107, 101, 95, 102, 117, 110], V.str [116, 114, 121],
                                    V.str [116, 114, 121, 95, 101, 110, 100], V.str [116, 114, 121, 95, 99, 97, 115, 101], V.str [114, 97, 105, 115, 101], V.str [98, 97, 100, 109, 97, 116, 99, 104], V.str [99, 97, 115, 101, 95, 101, 110, 100], V.str [105, 102, 95, 101, 110, 100]])
                                [Int.toNat op] =
                              0 + Int.toNat op * 1 ∧
                            r = V.str s8))) := by kernel_rfl
theorem nl22_0 (S : List V → Prop) (ls : List V) (d i : Int) (Nx Ex Rt : List V → List Blk → Prop) : wC Try.prog (sp22 S) 37 noHint (prsOf []) noLs 0 (lcode Try.f22 0).2 1000 (List.zip [0, 1, 5] [.list false ls, .int .i64 d, .int .i64 i]) (List.zip [] []) (endK ends22_0 Nx Ex Rt) = (
  List.length ls ≤ 9223372036854775807 →
    ∀ (x1 : Int),
      x1 = ↑(List.length ls) →
        ∀ (x3 : Bool),
          x3 = decide (i < x1) →
            (x3 = true →
                0 ≤ i ∧
                  i < ↑(List.length ls) ∧
                    ∃ n6 n7 l8,
                      getV ls i = V.agg [V.int IntKind.i64 n6, V.int IntKind.i64 n7, V.list false l8] ∧
                        (List.length l8 ≤ 9223372036854775807 →
                          ∀ (x10 : Int),
                            x10 = ↑(List.length l8) →
                              ∀ (x12 : Bool),
                                x12 = decide (x10 > 0) →
                                  (x12 = true →
                                      0 ≤ i ∧
                                        i < ↑(List.length ls) ∧
                                          ∃ n15 n16 l17,
                                            getV ls i = V.agg [V.int IntKind.i64 n15, V.int IntKind.i64 n16, V.list false l17] ∧
                                              ∀ (x18 : Int), x18 = IntKind.wrap IntKind.i64 (d - 1) → S l17 ∧ ∀ (x20 : Bool), x20 = !fewV l17 x18 → (x20 = true → Rt [V.gd true (V.bool false)] []) ∧ (x20 = false → ∀ (x24 : Int), x24 = IntKind.wrap IntKind.i64 (i + 1) → Nx [V.list false ls, V.int IntKind.i64 d, V.int IntKind.i64 x24] [])) ∧
                                    (x12 = false → ∀ (x27 : Int), x27 = IntKind.wrap IntKind.i64 (i + 1) → Nx [V.list false ls, V.int IntKind.i64 d, V.int IntKind.i64 x27] []))) ∧
              (x3 = false → Ex [] [])) := by kernel_rfl
theorem n22 (S : List V → Prop) (l0 ls : List V) (d : Int) (r : V) : wC Try.prog (sp22 S) 37 noHint (prsOf []) (ls22 l0) 0 (bodyOf Try.f22) 1000 (initL [.list false ls, .int .i64 d] 0) [] (finK Try.prog none Try.f22.results.toList r) = (
  List.length ls ≤ 9223372036854775807 →
    ∀ (x1 : Int), x1 = ↑(List.length ls) → ∀ (x3 : Bool), x3 = decide (x1 > 60) → (x3 = true → r = V.bool false) ∧ (x3 = false → ∀ (x7 : Bool), x7 = decide (d < 0) → (x7 = true → r = V.bool false) ∧ (x7 = false → ls = l0 ∧ Int.ofNat 0 = 0 ∧ (AllS (fewP ls d) (↑(List.length ls)) 1 0 → r = V.bool true) ∧ (¬AllS (fewP ls d) (↑(List.length ls)) 1 0 → r = V.bool false)))) := by kernel_rfl
end GoL
