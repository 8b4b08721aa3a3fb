/- A part of the proof: a logic for programs of this kind, proved sound over the model; contracts of functions; plain laws. -/
import Derived.Test.YtjnagpmhkpkngaaTD
set_option linter.all false
open Go Go.Proofs
namespace GoL
set_option linter.unusedVariables false
set_option maxRecDepth 100000
theorem n8 (op : Int) (r : V) : wC Try.prog sp8 82 noHint (prsOf []) noLs 0 (bodyOf Try.f8) 1000 (initL [.int .i64 op] 0) [] (finK Try.prog none Try.f8.results.toList r) = (
  ∀ (x0 : Bool),
    x0 = (op == 1) →
      (x0 = true → r = V.str [117]) ∧
        (x0 = false →
          ∀ (x4 : Bool),
            x4 = (op == 10) →
              (x4 = true → r = V.str [117]) ∧
                (x4 = false →
                  ∀ (x8 : Bool),
                    x8 = (op == 13) →
                      (x8 = true → r = V.str [117]) ∧
                        (x8 = false →
                          ∀ (x12 : Bool),
                            x12 = (op == 14) →
                              (x12 = true → r = V.str [117]) ∧
                                (x12 = false →
                                  ∀ (x16 : Bool),
                                    x16 = (op == 2) →
                                      (x16 = true → r = V.str [97, 97, 117]) ∧
                                        (x16 = false →
                                          ∀ (x20 : Bool),
                                            x20 = (op == 4) →
                                              (x20 = true → r = V.str [115, 100]) ∧
                                                (x20 = false →
                                                  ∀ (x24 : Bool),
                                                    x24 = (op == 5) →
                                                      (x24 = true → r = V.str [108]) ∧
                                                        (x24 = false →
                                                          ∀ (x28 : Bool),
                                                            x28 = (op == 6) →
                                                              (x28 = true → r = V.str [117, 108]) ∧
                                                                (x28 = false →
                                                                  ∀ (x32 : Bool),
                                                                    x32 = (op == 7) →
                                                                      (x32 = true → r = V.str [117, 108]) ∧
                                                                        (x32 = false →
                                                                          ∀ (x36 : Bool),
                                                                            x36 = (op == 8) →
                                                                              (x36 = true → r = V.str [117, 108, 117]) ∧
                                                                                (x36 = false →
                                                                                  ∀ (x40 : Bool),
                                                                                    x40 = (op == 9) →
                                                                                      (x40 = true → r = V.str [117, 117]) ∧
                                                                                        (x40 = false →
                                                                                          ∀ (x44 : Bool),
                                                                                            x44 = (op == 12) →
                                                                                              (x44 = true → r = V.str [117, 117]) ∧
                                                                                                (x44 = false →
                                                                                                  ∀ (x48 : Bool),
                                                                                                    x48 = (op == 16) →
                                                                                                      (x48 = true → r = V.str [117, 117]) ∧
                                                                                                        (x48 = false →
                                                                                                          ∀ (x52 : Bool),
                                                                                                            x52 = (op == 15) →
                                                                                                              (x52 = true → r = V.str [121]) ∧
                                                                                                                (x52 = false →
                                                                                                                  ∀ (x56 : Bool),
                                                                                                                    x56 = (op == 46) →
                                                                                                                      (x56 = true → r = V.str [121]) ∧
                                                                                                                        (x56 = false →
                                                                                                                          ∀ (x60 : Bool),
                                                                                                                            x60 = (op == 47) →
                                                                                                                              (x60 = true → r = V.str [121]) ∧
                                                                                                                                (x60 = false →
                                                                                                                                  ∀ (x64 : Bool),
                                                                                                                                    x64 = (op == 17) →
                                                                                                                                      (x64 = true → r = V.str [115, 115, 100]) ∧
                                                                                                                                        (x64 = false →
                                                                                                                                          ∀ (x68 : Bool),
                                                                                                                                            x68 = (op == 18) →
                                                                                                                                              (x68 = true → r = V.str [83, 100]) ∧
                                                                                                                                                (x68 = false →
                                                                                                                                                  ∀ (x72 : Bool),
                                                                                                                                                    x72 = (op == 19) →
                                                                                                                                                      (x72 = true → r = V.str [115, 100, 100]) ∧
                                                                                                                                                        (x72 = false →
                                                                                                                                                          ∀ (x76 : Bool),
                                                                                                                                                            x76 = (op == 20) →
                                                                                                                                                              (x76 = true → r = V.str [115, 117, 100]) ∧
                                                                                                                                                                (x76 = false →
                                                                                                                                                                  ∀ (x80 : Bool),
                                                                                                                                                                    x80 = (op == 21) →
                                                                                                                                                                      (x80 = true → r = V.str [108, 115]) ∧
                                                                                                                                                                        (x80 = false →
                                                                                                                                                                          ∀ (x84 : Bool),
                                                                                                                                                                            x84 = (op == 22) →
                                                                                                                                                                              (x84 = true → r = V.str [108, 115]) ∧
                                                                                                                                                                                (x84 = false →
                                                                                                                                                                                  ∀ (x88 : Bool),
                                                                                                                                                                                    x88 = (op == 23) →
                                                                                                                                                                                      (x88 = true → r = V.str [108, 115]) ∧
                                                                                                                                                                                        (x88 = false →
                                                                                                                                                                                          ∀ (x92 : Bool),
                                                                                                                                                                                            x92 = (op == 24) →
                                                                                                                                                                                              (x92 = true → r = V.str [108, 115]) ∧
                                                                                                                                                                                                (x92 = false →
                                                                                                                                                                                                  ∀ (x96 : Bool),
                                                                                                                                                                                                    x96 = (op == 25) →
                                                                                                                                                                                                      (x96 = true → r = V.str [108, 115]) ∧
                                                                                                                                                                                                        (x96 = false →
                                                                                                                                                                                                          ∀ (x100 : Bool),
                                                                                                                                                                                                            x100 = (op == 26) →
                                                                                                                                                                                                              (x100 = true → r = V.str [108, 115]) ∧
                                                                                                                                                                                                                (x100 = false →
                                                                                                                                                                                                                  ∀ (x104 : Bool),
                                                                                                                                                                                                                    x104 = (op == 27) →
                                                                                                                                                                                                                      (x104 = true → r = V.str [108, 115]) ∧
                                                                                                                                                                                                                        (x104 = false →
                                                                                                                                                                                                                          ∀ (x108 : Bool),
                                                                                                                                                                                                                            x108 = (op == 28) →
                                                                                                                                                                                                                              (x108 = true → r = V.str [108, 115, 117]) ∧
                                                                                                                                                                                                                                (x108 = false →
                                                                                                                                                                                                                                  ∀ (x112 : Bool),
                                                                                                                                                                                                                                    x112 = (op == 29) →
                                                                                                                                                                                                                                      (x112 = true → r = V.str [108, 115, 115]) ∧
                                                                                                                                                                                                                                        (x112 = false →
                                                                                                                                                                                                                                          ∀ (x116 : Bool),
                                                                                                                                                                                                                                            x116 = (op == 30) →
                                                                                                                                                                                                                                              (x116 = true → r = V.str [108, 115, 115]) ∧
                                                                                                                                                                                                                                                (x116 = false →
                                                                                                                                                                                                                                                  ∀ (x120 : Bool),
                                                                                                                                                                                                                                                    x120 = (op == 31) →
                                                                                                                                                                                                                                                      (x120 = true → r = V.str [108, 115, 115]) ∧
                                                                                                                                                                                                                                                        (x120 = false →
                                                                                                                                                                                                                                                          ∀ (x124 : Bool),
                                                                                                                                                                                                                                                            x124 = (op == 32) →
                                                                                                                                                                                                                                                              (x124 = true → r = V.str [108, 115, 115]) ∧
                                                                                                                                                                                                                                                                (x124 = false →
                                                                                                                                                                                                                                                                  ∀ (x128 : Bool),
                                                                                                                                                                                                                                                                    x128 = (op == 33) →
                                                                                                                                                                                                                                                                      (x128 = true → r = V.str [115, 108, 80]) ∧
                                                                                                                                                                                                                                                                        (x128 = false →
                                                                                                                                                                                                                                                                          ∀ (x132 : Bool),
                                                                                                                                                                                                                                                                            x132 = (op == 34) →
                                                                                                                                                                                                                                                                              (x132 = true → r = V.str [100, 100]) ∧
                                                                                                                                                                                                                                                                                (x132 = false →
                                                                                                                                                                                                                                                                                  ∀ (x136 : Bool),
                                                                                                                                                                                                                                                                                    x136 = (op == 35) →
                                                                                                                                                                                                                                                                                      (x136 = true → r = V.str [102, 117, 117, 115, 115, 100]) ∧
                                                                                                                                                                                                                                                                                        (x136 = false →
                                                                                                                                                                                                                                                                                          ∀ (x140 : Bool),
                                                                                                                                                                                                                                                                                            x140 = (op == 36) →
                                                                                                                                                                                                                                                                                              (x140 = true → r = V.str [102, 117, 115, 100]) ∧
                                                                                                                                                                                                                                                                                                (x140 = false →
                                                                                                                                                                                                                                                                                                  ∀ (x144 : Bool),
                                                                                                                                                                                                                                                                                                    x144 = (op == 37) →
                                                                                                                                                                                                                                                                                                      (x144 = true → r = V.str [102, 117, 115, 115, 100]) ∧
                                                                                                                                                                                                                                                                                                        (x144 = false →
                                                                                                                                                                                                                                                                                                          ∀ (x148 : Bool),
                                                                                                                                                                                                                                                                                                            x148 = (op == 38) →
                                                                                                                                                                                                                                                                                                              (x148 = true → r = V.str [108, 115, 117, 120]) ∧
                                                                                                                                                                                                                                                                                                                (x148 = false →
                                                                                                                                                                                                                                                                                                                  ∀ (x152 : Bool),
                                                                                                                                                                                                                                                                                                                    x152 = (op == 39) →
                                                                                                                                                                                                                                                                                                                      (x152 = true → r = V.str [108, 120, 117, 100]) ∧
                                                                                                                                                                                                                                                                                                                        (x152 = false →
                                                                                                                                                                                                                                                                                                                          ∀ (x156 : Bool),
                                                                                                                                                                                                                                                                                                                            x156 = (op == 40) →
                                                                                                                                                                                                                                                                                                                              (x156 = true → r = V.str [108, 120, 117, 117, 100]) ∧
                                                                                                                                                                                                                                                                                                                                (x156 = false →
                                                                                                                                                                                                                                                                                                                                  ∀ (x160 : Bool),
                                                                                                                                                                                                                                                                                                                                    x160 = (op == 41) →
                                                                                                                                                                                                                                                                                                                                      (x160 = true → r = V.str [120, 117, 100]) ∧
                                                                                                                                                                                                                                                                                                                                        (x160 = false →
                                                                                                                                                                                                                                                                                                                                          ∀ (x164 : Bool),
                                                                                                                                                                                                                                                                                                                                            x164 = (op == 42) →
                                                                                                                                                                                                                                                                                                                                              (x164 = true → r = V.str [108, 120, 117]) ∧
                                                                                                                                                                                                                                                                                                                                                (x164 = false →
                                                                                                                                                                                                                                                                                                                                                  ∀ (x168 : Bool),
                                                                                                                                                                                                                                                                                                                                                    x168 = (op == 43) →
                                                                                                                                                                                                                                                                                                                                                      (x168 = true → r = V.str [117, 83, 100]) ∧
                                                                                                                                                                                                                                                                                                                                                        (x168 = false →
                                                                                                                                                                                                                                                                                                                                                          ∀ (x172 : Bool),
                                                                                                                                                                                                                                                                                                                                                            x172 = (op == 44) →
                                                                                                                                                                                                                                                                                                                                                              (x172 = true → r = V.str [117, 83, 100]) ∧
                                                                                                                                                                                                                                                                                                                                                                (x172 = false →
                                                                                                                                                                                                                                                                                                                                                                  ∀ (x176 : Bool),
                                                                                                                                                                                                                                                                                                                                                                    x176 = (op == 45) →
                                                                                                                                                                                                                                                                                                                                                                      (x176 = true → r = V.str [121, 108]) ∧
                                                                                                                                                                                                                                                                                                                                                                        (x176 = false →
                                                                                                                                                                                                                                                                                                                                                                          ∀ (x180 : Bool),
                                                                                                                                                                                                                                                                                                                                                                            x180 = (op == 48) →
                                                                                                                                                                                                                                                                                                                                                                              (x180 = true →
                                                                                                                                                                                                                                                                                                                                                                                  r = V.str [115, 115]) ∧
                                                                                                                                                                                                                                                                                                                                                                                (x180 = false →
                                                                                                                                                                                                                                                                                                                                                                                  ∀ (x184 : Bool),
                                                                                                                                                                                                                                                                                                                                                                                    x184 = (op == 49) →
                                                                                                                                                                                                                                                                                                                                                                                      (x184 = true →
                                                                                                                                                                                                                                                                                                                                                                                          r = V.str [115]) ∧
                                                                                                                                                                                                                                                                                                                                                                                        (x184 = false →
                                                                                                                                                                                                                                                                                                                                                                                          ∀ (x188 : Bool),
                                                                                                                                                                                                                                                                                                                                                                                            x188 = (op == 50) →
                                                                                                                                                                                                                                                                                                                                                                                              (x188 = true →
                                                                                                                                                                                                                                                                                                                                                                                                  r =
                                                                                                                                                                                                                                                                                                                                                                                                    V.str [115]) ∧
                                                                                                                                                                                                                                                                                                                                                                                                (x188 = false →
                                                                                                                                                                                                                                                                                                                                                                                                  r =
                                                                                                                                                                                                                                                                                                                                                                                                    V.str
                                                                                                                                                                                                                                                                                                                                                                                                      []))))))))))))))))))))))))))))))))))))))))))))))))) := by kernel_rfl
theorem n12 (op : Int) (r : V) : wC Try.prog sp12 17 noHint (prsOf []) noLs 0 (bodyOf Try.f12) 1000 (initL [.int .i64 op] 0) [] (finK Try.prog none Try.f12.results.toList r) = (
  ∀ (x0 : Bool),
    x0 = (op == 2) →
      (x0 = true → r = V.bool true) ∧
        (x0 = false →
          ∀ (x4 : Bool),
            x4 = (op == 3) →
              (x4 = true → r = V.bool true) ∧
                (x4 = false →
                  ∀ (x8 : Bool),
                    x8 = (op == 5) →
                      (x8 = true → r = V.bool true) ∧
                        (x8 = false →
                          ∀ (x12 : Bool),
                            x12 = (op == 7) →
                              (x12 = true → r = V.bool true) ∧
                                (x12 = false →
                                  ∀ (x16 : Bool),
                                    x16 = (op == 8) →
                                      (x16 = true → r = V.bool true) ∧
                                        (x16 = false →
                                          ∀ (x20 : Bool),
                                            x20 = (op == 11) →
                                              (x20 = true → r = V.bool true) ∧
                                                (x20 = false →
                                                  ∀ (x24 : Bool),
                                                    x24 = (op == 33) →
                                                      (x24 = true → r = V.bool true) ∧
                                                        (x24 = false →
                                                          ∀ (x28 : Bool),
                                                            x28 = (op == 48) →
                                                              (x28 = true → r = V.bool true) ∧ (x28 = false → ∀ (x32 : Bool), x32 = (op == 49) → (x32 = true → r = V.bool true) ∧ (x32 = false → ∀ (x36 : Bool), x36 = (op == 50) → (x36 = true → r = V.bool true) ∧ (x36 = false → ∀ (x40 : Bool), x40 = (op == 51) → (x40 = true → r = V.bool true) ∧ (x40 = false → r = V.bool false)))))))))))) := by kernel_rfl
theorem n13 (op : Int) (r : V) : wC Try.prog sp13 16 noHint (prsOf []) noLs 0 (bodyOf Try.f13) 1000 (initL [.int .i64 op] 0) [] (finK Try.prog none Try.f13.results.toList r) = (
  ∀ (x0 : Bool),
    x0 = (op == 2) →
      (x0 = true → r = V.bool true) ∧
        (x0 = false →
          ∀ (x4 : Bool),
            x4 = (op == 3) →
              (x4 = true → r = V.bool true) ∧
                (x4 = false →
                  ∀ (x8 : Bool),
                    x8 = (op == 5) →
                      (x8 = true → r = V.bool true) ∧
                        (x8 = false →
                          ∀ (x12 : Bool),
                            x12 = (op == 7) →
                              (x12 = true → r = V.bool true) ∧
                                (x12 = false →
                                  ∀ (x16 : Bool),
                                    x16 = (op == 8) →
                                      (x16 = true → r = V.bool true) ∧
                                        (x16 = false →
                                          ∀ (x20 : Bool),
                                            x20 = (op == 11) →
                                              (x20 = true → r = V.bool true) ∧
                                                (x20 = false →
                                                  ∀ (x24 : Bool),
                                                    x24 = (op == 33) →
                                                      (x24 = true → r = V.bool true) ∧
                                                        (x24 = false →
                                                          ∀ (x28 : Bool),
                                                            x28 = (op == 48) →
                                                              (x28 = true → r = V.bool true) ∧ (x28 = false → ∀ (x32 : Bool), x32 = (op == 49) → (x32 = true → r = V.bool true) ∧ (x32 = false → ∀ (x36 : Bool), x36 = (op == 50) → (x36 = true → r = V.bool true) ∧ (x36 = false → ∀ (x40 : Bool), x40 = (op == 51) → (x40 = true → r = V.bool true) ∧ (x40 = false → r = V.bool false)))))))))))) := by kernel_rfl
theorem n28 (r : V) : wC Try.prog sp28 2 noHint (prsOf []) noLs 0 (bodyOf Try.f28) 1000 (initL [] 0) [] (finK Try.prog none Try.f28.results.toList r) = (
  r =
    V.list false
      [V.str [117], V.str [97, 97, 117], V.str [], V.str [115, 100], V.str [108], V.str [117, 108], V.str [117, 108], V.str [117, 108, 117], V.str [117, 117], V.str [117], V.str [], V.str [117, 117], V.str [117], V.str [117], V.str [121], V.str [117, 117], V.str [115, 115, 100], V.str [83, 100], V.str [115, 100, 100], V.str [115, 117, 100], V.str [108, 115], V.str [108, 115], V.str [108, 115],
        V.str [108, 115], V.str [108, 115], V.str [108, 115], V.str [108, 115], V.str [108, 115, 117], V.str [108, 115, 115], V.str [108, 115, 115], V.str [108, 115, 115], V.str [108, 115, 115], V.str [115, 108, 80], V.str [100, 100], V.str [102, 117, 117, 115, 115, 100], V.str [102, 117, 115, 100], V.str [102, 117, 115, 115, 100], V.str [108, 115, 117, 120], V.str [108, 120, 117, 100],
        V.str [108, 120, 117, 117, 100], V.str [120, 117, 100], V.str [108, 120, 117], V.str [117, 83, 100], V.str [117, 83, 100], V.str [121, 108], V.str [121], V.str [121], V.str [115, 115], V.str [115], V.str [115], V.str []]) := by kernel_rfl
theorem n29 (r : V) : wC Try.prog sp29 2 noHint (prsOf []) noLs 0 (bodyOf Try.f29) 1000 (initL [] 0) [] (finK Try.prog none Try.f29.results.toList r) = (
  r =
    V.list false
      [V.str [108, 97, 98, 101, 108], V.str [102, 117, 110, 99, 95, 105, 110, 102, 111], V.str [101, 110, 100], V.str [109, 111, 118, 101], V.str [106, 117, 109, 112], V.str [99, 97, 108, 108], V.str [99, 97, 108, 108, 95, 111, 110, 108, 121], V.str [99, 97, 108, 108, 95, 108, 97, 115, 116], V.str [99, 97, 108, 108, 95, 101, 120, 116], V.str [99, 97, 108, 108, 95, 102, 117, 110],
        V.str [114, 101, 116, 117, 114, 110], V.str [97, 108, 108, 111, 99, 97, 116, 101], V.str [100, 101, 97, 108, 108, 111, 99, 97, 116, 101], V.str [116, 114, 105, 109], V.str [105, 110, 105, 116], V.str [116, 101, 115, 116, 95, 104, 101, 97, 112], V.str [112, 117, 116, 95, 108, 105, 115, 116], V.str [112, 117, 116, 95, 116, 117, 112, 108, 101], V.str [103, 101, 116, 95, 108, 105, 115, 116],
        V.str [103, 101, 116, 95, 101, 108, 101, 109, 101, 110, 116], V.str [105, 115, 95, 105, 110, 116], V.str [105, 115, 95, 97, 116, 111, 109], V.str [105, 115, 95, 110, 105, 108], V.str [105, 115, 95, 99, 111, 110, 115], V.str [105, 115, 95, 116, 117, 112, 108, 101], V.str [105, 115, 95, 98, 105, 110], V.str [105, 115, 95, 102, 117, 110], V.str [116, 101, 115, 116, 95, 97, 114, 105, 116, 121],
        V.str [105, 115, 95, 108, 116], V.str [105, 115, 95, 103, 101], V.str [105, 115, 95, 101, 113], V.str [105, 115, 95, 110, 101], V.str [115, 101, 108, 101, 99, 116], V.str [115, 119, 97, 112], V.str [103, 99, 95, 111, 112], V.str [98, 105, 102, 49], V.str [98, 105, 102, 50], V.str [98, 115, 95, 115, 116, 97, 114, 116], V.str [98, 115, 95, 105, 110, 116], V.str [98, 115, 95, 98, 105, 110],
        V.str [98, 115, 95, 114, 101, 115, 116], V.str [98, 115, 95, 116, 97, 105, 108], V.str [98, 115, 95, 109, 97, 107, 101], V.str [109, 97, 107, 101, 95, 102, 117, 110], V.str [116, 114, 121], V.str [116, 114, 121, 95, 101, 110, 100], V.str [116, 114, 121, 95, 99, 97, 115, 101], V.str [114, 97, 105, 115, 101], V.str [98, 97, 100, 109, 97, 116, 99, 104],
        V.str [99, 97, 115, 101, 95, 101, 110, 100], V.str [105, 102, 95, 101, 110, 100]]) := by kernel_rfl
theorem n9 (op : Int) (r : V) : wC Try.prog sp9 14 noHint (prsOf []) noLs 0 (bodyOf Try.f9) 1000 (initL [.int .i64 op] 0) [] (finK Try.prog none Try.f9.results.toList r) = (
  ∀ (x0 : Bool),
    x0 = decide (op < 1) →
      (x0 = true → r = V.str []) ∧
        (x0 = false →
          ∀ (x4 : Bool),
            x4 = decide (op > 51) →
              (x4 = true → r = V.str []) ∧
                (x4 = false →
                  ∀ (x8 : Int),
                    x8 = IntKind.wrap IntKind.i64 (op - 1) →
                      0 ≤ x8 ∧
                        x8 < ↑51 ∧
                          ∃ s10,
                            getV
                                  [V.str [117], V.str [97, 97, 117], V.str [], V.str [115, 100], V.str [108], V.str [117, 108], V.str [117, 108], V.str [117, 108, 117], V.str [117, 117], V.str [117], V.str [], V.str [117, 117], V.str [117], V.str [117], V.str [121], V.str [117, 117], V.str [115, 115, 100], V.str [83, 100], V.str [115, 100, 100], V.str [115, 117, 100], V.str [108, 115],
                                    V.str [108, 115], V.str [108, 115], V.str [108, 115], V.str [108, 115], V.str [108, 115], V.str [108, 115], V.str [108, 115, 117], V.str [108, 115, 115], V.str [108, 115, 115], V.str [108, 115, 115], V.str [108, 115, 115], V.str [115, 108, 80], V.str [100, 100], V.str [102, 117, 117, 115, 115, 100], V.str [102, 117, 115, 100], V.str [102, 117, 115, 115, 100],
                                    V.str [108, 115, 117, 120], V.str [108, 120, 117, 100], V.str [108, 120, 117, 117, 100], V.str [120, 117, 100], V.str [108, 120, 117], V.str [117, 83, 100], V.str [117, 83, 100], V.str [121, 108], V.str [121], V.str [121], V.str [115, 115], V.str [115], V.str [115], V.str []]
                                  x8 =
                                V.str s10 ∧
                              r = V.str s10))) := by kernel_rfl
theorem n11 (op : Int) (r : V) : wC Try.prog sp11 14 noHint (prsOf []) noLs 0 (bodyOf Try.f11) 1000 (initL [.int .i64 op] 0) [] (finK Try.prog none Try.f11.results.toList r) = (
  ∀ (x0 : Bool),
    x0 = decide (op < 1) →
      (x0 = true → r = V.str []) ∧
        (x0 = false →
          ∀ (x4 : Bool),
            x4 = decide (op > 51) →
              (x4 = true → r = V.str []) ∧
                (x4 = false →
                  ∀ (x8 : Int),
                    x8 = IntKind.wrap IntKind.i64 (op - 1) →
                      0 ≤ x8 ∧
                        x8 < ↑51 ∧
                          ∃ s10,
                            getV
                                  [V.str [108, 97, 98, 101, 108], V.str [102, 117, 110, 99, 95, 105, 110, 102, 111], V.str [101, 110, 100], V.str [109, 111, 118, 101], V.str [106, 117, 109, 112], V.str [99, 97, 108, 108], V.str [99, 97, 108, 108, 95, 111, 110, 108, 121], V.str [99, 97, 108, 108, 95, 108, 97, 115, 116], V.str [99, 97, 108, 108, 95, 101, 120, 116],
                                    V.str [99, 97, 108, 108, 95, 102, 117, 110], V.str [114, 101, 116, 117, 114, 110], V.str [97, 108, 108, 111, 99, 97, 116, 101], V.str [100, 101, 97, 108, 108, 111, 99, 97, 116, 101], V.str [116, 114, 105, 109], V.str [105, 110, 105, 116], V.str [116, 101, 115, 116, 95, 104, 101, 97, 112], V.str [112, 117, 116, 95, 108, 105, 115, 116],
                                    V.str [112, 117, 116, 95, 116, 117, 112, 108, 101], V.str [103, 101, 116, 95, 108, 105, 115, 116], V.str [103, 101, 116, 95, 101, 108, 101, 109, 101, 110, 116], V.str [105, 115, 95, 105, 110, 116], V.str [105, 115, 95, 97, 116, 111, 109], V.str [105, 115, 95, 110, 105, 108], V.str [105, 115, 95, 99, 111, 110, 115], V.str [105, 115, 95, 116, 117, 112, 108, 101],
                                    V.str [105, 115, 95, 98, 105, 110], V.str [105, 115, 95, 102, 117, 110], V.str [116, 101, 115, 116, 95, 97, 114, 105, 116, 121], V.str [105, 115, 95, 108, 116], V.str [105, 115, 95, 103, 101], V.str [105, 115, 95, 101, 113], V.str [105, 115, 95, 110, 101], V.str [115, 101, 108, 101, 99, 116], V.str [115, 119, 97, 112], V.str [103, 99, 95, 111, 112],
                                    V.str [98, 105, 102, 49], V.str [98, 105, 102, 50], V.str [98, 115, 95, 115, 116, 97, 114, 116], V.str [98, 115, 95, 105, 110, 116], V.str [98, 115, 95, 98, 105, 110], V.str [98, 115, 95, 114, 101, 115, 116], V.str [98, 115, 95, 116, 97, 105, 108], V.str [98, 115, 95, 109, 97, 107, 101], V.str [109, 97, 107, 101, 95, 102, 117, 110], V.str [116, 114, 121],
                                    V.str [116, 114, 121, 95, 101, 110, 100], V.str [116, 114, 121, 95, 99, 97, 115, 101], V.str [114, 97, 105, 115, 101], V.str [98, 97, 100, 109, 97, 116, 99, 104], V.str [99, 97, 115, 101, 95, 101, 110, 100], V.str [105, 102, 95, 101, 110, 100]]
                                  x8 =
                                V.str s10 ∧
                              r = V.str s10))) := by kernel_rfl
theorem n36 (t n : Int) (ls : List V) (r : V) : wC Try.prog sp36 44 noHint (prsOf []) noLs 0 (bodyOf Try.f36) 1000 (initL [.agg [.int .i64 t, .int .i64 n, .list false ls]] 0) [] (finK Try.prog none Try.f36.results.toList r) = (
  ∀ (x0 : Bool),
    x0 = (t == 1) →
      (x0 = true → List.length ls ≤ 9223372036854775807 → ∀ (x4 : Int), x4 = ↑(List.length ls) → ∀ (x6 : Bool), x6 = (x4 == 0) → (x6 = true → ∀ (x9 : Bool), x9 = decide (n ≥ -576460752303423488) → (x9 = true → ∀ (x12 : Bool), x12 = decide (n < 576460752303423488) → r = V.bool x12) ∧ (x9 = false → r = V.bool false)) ∧ (x6 = false → r = V.bool false)) ∧
        (x0 = false →
          ∀ (x17 : Bool),
            x17 = decide (t ≥ 0) →
              (x17 = true →
                  ∀ (x20 : Bool),
                    x20 = decide (t < 7) →
                      (x20 = true → List.length ls ≤ 9223372036854775807 → ∀ (x24 : Int), x24 = ↑(List.length ls) → ∀ (x26 : Bool), x26 = (x24 == 0) → (x26 = true → ∀ (x29 : Bool), x29 = decide (n ≥ 0) → (x29 = true → ∀ (x32 : Bool), x32 = decide (n ≤ 268435455) → r = V.bool x32) ∧ (x29 = false → r = V.bool false)) ∧ (x26 = false → r = V.bool false)) ∧ (x20 = false → r = V.bool false)) ∧
                (x17 = false → r = V.bool false))) := by kernel_rfl
theorem n38 (t n : Int) (ls : List V) (r : V) : wC Try.prog sp38 21 noHint (prsOf []) noLs 0 (bodyOf Try.f38) 1000 (initL [.agg [.int .i64 t, .int .i64 n, .list false ls]] 0) [] (finK Try.prog none Try.f38.results.toList r) = (
  ∀ (x0 : Bool),
    x0 = (t == 3) →
      (x0 = true → ∀ (x3 : Bool), x3 = decide (n < 16) → (x3 = true → r = V.bool true) ∧ (x3 = false → ∀ (x7 : Bool), x7 = (t == 4) → (x7 = true → ∀ (x10 : Bool), x10 = decide (n < 12) → r = V.bool x10) ∧ (x7 = false → r = V.bool false))) ∧ (x0 = false → ∀ (x14 : Bool), x14 = (t == 4) → (x14 = true → ∀ (x17 : Bool), x17 = decide (n < 12) → r = V.bool x17) ∧ (x14 = false → r = V.bool false))) := by kernel_rfl
theorem n37 (t n : Int) (ls : List V) (r : V) : wC Try.prog sp37 11 noHint (prsOf []) noLs 0 (bodyOf Try.f37) 1000 (initL [.agg [.int .i64 t, .int .i64 n, .list false ls]] 0) [] (finK Try.prog none Try.f37.results.toList r) = (
  ∀ (x0 : Bool), x0 = (t == 1) → (x0 = true → r = V.bool true) ∧ (x0 = false → ∀ (x4 : Bool), x4 = (t == 2) → (x4 = true → r = V.bool true) ∧ (x4 = false → ∀ (x8 : Bool), x8 = (t == 6) → (x8 = true → r = V.bool true) ∧ (x8 = false → r = V.bool (regB t n))))) := by kernel_rfl
theorem n16 (n : Int) (r : V) : wC Try.prog sp16 5 noHint (prsOf []) noLs 0 (bodyOf Try.f16) 1000 (initL [.int .i64 n] 0) [] (finK Try.prog none Try.f16.results.toList r) = (
  r = V.agg [V.int IntKind.i64 1, V.int IntKind.i64 n, V.list false []]) := by kernel_rfl
theorem n17 (n : Int) (r : V) : wC Try.prog sp17 5 noHint (prsOf []) noLs 0 (bodyOf Try.f17) 1000 (initL [.int .i64 n] 0) [] (finK Try.prog none Try.f17.results.toList r) = (
  r = V.agg [V.int IntKind.i64 5, V.int IntKind.i64 n, V.list false []]) := by kernel_rfl
theorem n21 (n : Int) (r : V) : wC Try.prog sp21 5 noHint (prsOf []) noLs 0 (bodyOf Try.f21) 1000 (initL [.int .i64 n] 0) [] (finK Try.prog none Try.f21.results.toList r) = (
  r = V.agg [V.int IntKind.i64 3, V.int IntKind.i64 n, V.list false []]) := by kernel_rfl
theorem n27 (n : Int) (r : V) : wC Try.prog sp27 5 noHint (prsOf []) noLs 0 (bodyOf Try.f27) 1000 (initL [.int .i64 n] 0) [] (finK Try.prog none Try.f27.results.toList r) = (
  r = V.agg [V.int IntKind.i64 0, V.int IntKind.i64 n, V.list false []]) := by kernel_rfl
theorem n18 (x n : Int) (r : V) : wC Try.prog sp18 15 noHint (prsOf []) noLs 0 (bodyOf Try.f18) 1000 (initL [.int .i64 x, .int .i64 n] 0) [] (finK Try.prog none Try.f18.results.toList r) = (
  (IntKind.i64 = IntKind.i64 ∧ (n = 0 → False)) ∧ (True → ∀ (x2 : Int), x2 = Int.tmod x n → ∀ (x4 : Bool), x4 = decide (x2 < 0) → (x4 = true → ∀ (x7 : Int), x7 = IntKind.wrap IntKind.i64 (x2 + n) → r = V.int IntKind.i64 x7) ∧ (x4 = false → r = V.int IntKind.i64 x2))) := by kernel_rfl
theorem n20 (op : Int) (xs : List V) (r : V) : wC Try.prog sp20 9 noHint (prsOf []) noLs 0 (bodyOf Try.f20) 1000 (initL [.int .i64 op, .list false xs] 0) [] (finK Try.prog none Try.f20.results.toList r) = (
  (((true || false) = true ∧ True) ∧ (∀ (v0 : V), List.Mem v0 xs → V.sz v0 = 3) ∧ some 3 = some 3 ∧ true = true ∧ ∃ b2, some 40 = some b2 ∧ List.length xs * b2 ≤ 140737488355328 ∧ List.length xs ≤ 9223372036854775807) ∧ (True → List.length xs = List.length xs ∧ r = V.agg [V.int IntKind.i64 op, V.list false xs])) := by kernel_rfl
theorem n30 (c t n : Int) (ls : List V) (r : V) : wC Try.prog sp30 89 noHint (prsOf []) noLs 0 (bodyOf Try.f30) 1000 (initL [.int .u8 c, .agg [.int .i64 t, .int .i64 n, .list false ls]] 0) [] (finK Try.prog none Try.f30.results.toList r) = (
  ∀ (x0 : Bool),
    x0 = (c == 83) →
      (x0 = true →
          ∀ (x3 : Bool),
            x3 = (t != 7) →
              (x3 = true → r = V.bool false) ∧ (x3 = false → ∀ (x7 : Bool), x7 = (n != 0) → (x7 = true → r = V.bool false) ∧ (x7 = false → List.length ls ≤ 9223372036854775807 → ∀ (x12 : Int), x12 = ↑(List.length ls) → ∀ (x14 : Bool), x14 = decide (x12 > 40) → (x14 = true → r = V.bool false) ∧ (x14 = false → ∀ (x18 : Bool), x18 = (c == 80) → (x18 = true → False) ∧ (x18 = false → False))))) ∧
        (x0 = false →
          ∀ (x23 : Bool),
            x23 = (c == 80) →
              (x23 = true →
                  ∀ (x26 : Bool),
                    x26 = (t != 7) →
                      (x26 = true → r = V.bool false) ∧
                        (x26 = false → ∀ (x30 : Bool), x30 = (n != 0) → (x30 = true → r = V.bool false) ∧ (x30 = false → List.length ls ≤ 9223372036854775807 → ∀ (x35 : Int), x35 = ↑(List.length ls) → ∀ (x37 : Bool), x37 = decide (x35 > 40) → (x37 = true → r = V.bool false) ∧ (x37 = false → ∀ (x41 : Bool), x41 = (c == 80) → (x41 = true → False) ∧ (x41 = false → False))))) ∧
                (x23 = false →
                  ∀ (x46 : Bool),
                    x46 = !plainB t n ls →
                      (x46 = true → r = V.bool false) ∧
                        (x46 = false →
                          ∀ (x50 : Bool),
                            x50 = (c == 117) →
                              (x50 = true → ∀ (x53 : Bool), x53 = (t == 0) → r = V.bool x53) ∧
                                (x50 = false →
                                  ∀ (x56 : Bool),
                                    x56 = (c == 97) →
                                      (x56 = true → ∀ (x59 : Bool), x59 = (t == 2) → (x59 = true → ∀ (x62 : Bool), x62 = decide (n > 0) → r = V.bool x62) ∧ (x59 = false → r = V.bool false)) ∧
                                        (x56 = false →
                                          ∀ (x66 : Bool),
                                            x66 = (c == 115) →
                                              (x66 = true → r = V.bool (srcB t n)) ∧
                                                (x66 = false →
                                                  ∀ (x70 : Bool),
                                                    x70 = (c == 100) →
                                                      (x70 = true → r = V.bool (regB t n)) ∧
                                                        (x70 = false →
                                                          ∀ (x74 : Bool),
                                                            x74 = (c == 120) →
                                                              (x74 = true → ∀ (x77 : Bool), x77 = (t == 3) → (x77 = true → r = V.bool (regB t n)) ∧ (x77 = false → r = V.bool false)) ∧
                                                                (x74 = false →
                                                                  ∀ (x82 : Bool),
                                                                    x82 = (c == 121) →
                                                                      (x82 = true → ∀ (x85 : Bool), x85 = (t == 4) → (x85 = true → r = V.bool (regB t n)) ∧ (x85 = false → r = V.bool false)) ∧
                                                                        (x82 = false → ∀ (x90 : Bool), x90 = (c == 108) → (x90 = true → ∀ (x93 : Bool), x93 = (t == 5) → (x93 = true → ∀ (x96 : Bool), x96 = decide (n > 0) → r = V.bool x96) ∧ (x93 = false → r = V.bool false)) ∧ (x90 = false → ∀ (x100 : Bool), x100 = (t == 5) → r = V.bool x100))))))))))) := by kernel_rfl
theorem n10_0 (r : V) : wC Try.prog sp10 14 noHint (prsOf []) noLs 0 (bodyOf Try.f10) 1000 (initL [.int .i64 (-2)] 0) [] (finK Try.prog none Try.f10.results.toList r) = (
  ∀ (x0 : Bool), x0 = decide (-2 < 0) → (x0 = true → r = V.str []) ∧ (x0 = false → ∀ (x4 : Bool), x4 = decide (-2 ≥ 52) → (x4 = true → r = V.str []) ∧ (x4 = false → Int.ofNat 0 ≤ -2 ∧ -2 < ↑52 ∧ r = V.str []))) := by kernel_rfl
theorem n10_1 (r : V) : wC Try.prog sp10 14 noHint (prsOf []) noLs 0 (bodyOf Try.f10) 1000 (initL [.int .i64 (-1)] 0) [] (finK Try.prog none Try.f10.results.toList r) = (
  ∀ (x0 : Bool), x0 = decide (-1 < 0) → (x0 = true → r = V.str []) ∧ (x0 = false → ∀ (x4 : Bool), x4 = decide (-1 ≥ 52) → (x4 = true → r = V.str []) ∧ (x4 = false → Int.ofNat 0 ≤ -1 ∧ -1 < ↑52 ∧ r = V.str []))) := by kernel_rfl
theorem n10_2 (r : V) : wC Try.prog sp10 14 noHint (prsOf []) noLs 0 (bodyOf Try.f10) 1000 (initL [.int .i64 0] 0) [] (finK Try.prog none Try.f10.results.toList r) = (
  ∀ (x0 : Bool), x0 = decide ((0 : Int) < 0) → (x0 = true → r = V.str []) ∧ (x0 = false → ∀ (x4 : Bool), x4 = decide ((0 : Int) ≥ 52) → (x4 = true → r = V.str []) ∧ (x4 = false → Int.ofNat 0 ≤ 0 ∧ (0 : Int) < ↑52 ∧ r = V.str []))) := by kernel_rfl
theorem n10_3 (r : V) : wC Try.prog sp10 14 noHint (prsOf []) noLs 0 (bodyOf Try.f10) 1000 (initL [.int .i64 1] 0) [] (finK Try.prog none Try.f10.results.toList r) = (
  ∀ (x0 : Bool), x0 = decide ((1 : Int) < 0) → (x0 = true → r = V.str []) ∧ (x0 = false → ∀ (x4 : Bool), x4 = decide ((1 : Int) ≥ 52) → (x4 = true → r = V.str []) ∧ (x4 = false → Int.ofNat 0 ≤ 1 ∧ (1 : Int) < ↑52 ∧ r = V.str [108, 97, 98, 101, 108]))) := by kernel_rfl
theorem n10_4 (r : V) : wC Try.prog sp10 14 noHint (prsOf []) noLs 0 (bodyOf Try.f10) 1000 (initL [.int .i64 2] 0) [] (finK Try.prog none Try.f10.results.toList r) = (
  ∀ (x0 : Bool), x0 = decide ((2 : Int) < 0) → (x0 = true → r = V.str []) ∧ (x0 = false → ∀ (x4 : Bool), x4 = decide ((2 : Int) ≥ 52) → (x4 = true → r = V.str []) ∧ (x4 = false → Int.ofNat 0 ≤ 2 ∧ (2 : Int) < ↑52 ∧ r = V.str [102, 117, 110, 99, 95, 105, 110, 102, 111]))) := by kernel_rfl
theorem n10_5 (r : V) : wC Try.prog sp10 14 noHint (prsOf []) noLs 0 (bodyOf Try.f10) 1000 (initL [.int .i64 3] 0) [] (finK Try.prog none Try.f10.results.toList r) = (
  ∀ (x0 : Bool), x0 = decide ((3 : Int) < 0) → (x0 = true → r = V.str []) ∧ (x0 = false → ∀ (x4 : Bool), x4 = decide ((3 : Int) ≥ 52) → (x4 = true → r = V.str []) ∧ (x4 = false → Int.ofNat 0 ≤ 3 ∧ (3 : Int) < ↑52 ∧ r = V.str [101, 110, 100]))) := by kernel_rfl
theorem n10_6 (r : V) : wC Try.prog sp10 14 noHint (prsOf []) noLs 0 (bodyOf Try.f10) 1000 (initL [.int .i64 4] 0) [] (finK Try.prog none Try.f10.results.toList r) = (
  ∀ (x0 : Bool), x0 = decide ((4 : Int) < 0) → (x0 = true → r = V.str []) ∧ (x0 = false → ∀ (x4 : Bool), x4 = decide ((4 : Int) ≥ 52) → (x4 = true → r = V.str []) ∧ (x4 = false → Int.ofNat 0 ≤ 4 ∧ (4 : Int) < ↑52 ∧ r = V.str [109, 111, 118, 101]))) := by kernel_rfl
theorem n10_7 (r : V) : wC Try.prog sp10 14 noHint (prsOf []) noLs 0 (bodyOf Try.f10) 1000 (initL [.int .i64 5] 0) [] (finK Try.prog none Try.f10.results.toList r) = (
  ∀ (x0 : Bool), x0 = decide ((5 : Int) < 0) → (x0 = true → r = V.str []) ∧ (x0 = false → ∀ (x4 : Bool), x4 = decide ((5 : Int) ≥ 52) → (x4 = true → r = V.str []) ∧ (x4 = false → Int.ofNat 0 ≤ 5 ∧ (5 : Int) < ↑52 ∧ r = V.str [106, 117, 109, 112]))) := by kernel_rfl
theorem n10_8 (r : V) : wC Try.prog sp10 14 noHint (prsOf []) noLs 0 (bodyOf Try.f10) 1000 (initL [.int .i64 6] 0) [] (finK Try.prog none Try.f10.results.toList r) = (
  ∀ (x0 : Bool), x0 = decide ((6 : Int) < 0) → (x0 = true → r = V.str []) ∧ (x0 = false → ∀ (x4 : Bool), x4 = decide ((6 : Int) ≥ 52) → (x4 = true → r = V.str []) ∧ (x4 = false → Int.ofNat 0 ≤ 6 ∧ (6 : Int) < ↑52 ∧ r = V.str [99, 97, 108, 108]))) := by kernel_rfl
theorem n10_9 (r : V) : wC Try.prog sp10 14 noHint (prsOf []) noLs 0 (bodyOf Try.f10) 1000 (initL [.int .i64 7] 0) [] (finK Try.prog none Try.f10.results.toList r) = (
  ∀ (x0 : Bool), x0 = decide ((7 : Int) < 0) → (x0 = true → r = V.str []) ∧ (x0 = false → ∀ (x4 : Bool), x4 = decide ((7 : Int) ≥ 52) → (x4 = true → r = V.str []) ∧ (x4 = false → Int.ofNat 0 ≤ 7 ∧ (7 : Int) < ↑52 ∧ r = V.str [99, 97, 108, 108, 95, 111, 110, 108, 121]))) := by kernel_rfl
theorem n10_10 (r : V) : wC Try.prog sp10 14 noHint (prsOf []) noLs 0 (bodyOf Try.f10) 1000 (initL [.int .i64 8] 0) [] (finK Try.prog none Try.f10.results.toList r) = (
  ∀ (x0 : Bool), x0 = decide ((8 : Int) < 0) → (x0 = true → r = V.str []) ∧ (x0 = false → ∀ (x4 : Bool), x4 = decide ((8 : Int) ≥ 52) → (x4 = true → r = V.str []) ∧ (x4 = false → Int.ofNat 0 ≤ 8 ∧ (8 : Int) < ↑52 ∧ r = V.str [99, 97, 108, 108, 95, 108, 97, 115, 116]))) := by kernel_rfl
theorem n10_11 (r : V) : wC Try.prog sp10 14 noHint (prsOf []) noLs 0 (bodyOf Try.f10) 1000 (initL [.int .i64 9] 0) [] (finK Try.prog none Try.f10.results.toList r) = (
  ∀ (x0 : Bool), x0 = decide ((9 : Int) < 0) → (x0 = true → r = V.str []) ∧ (x0 = false → ∀ (x4 : Bool), x4 = decide ((9 : Int) ≥ 52) → (x4 = true → r = V.str []) ∧ (x4 = false → Int.ofNat 0 ≤ 9 ∧ (9 : Int) < ↑52 ∧ r = V.str [99, 97, 108, 108, 95, 101, 120, 116]))) := by kernel_rfl
theorem n10_12 (r : V) : wC Try.prog sp10 14 noHint (prsOf []) noLs 0 (bodyOf Try.f10) 1000 (initL [.int .i64 10] 0) [] (finK Try.prog none Try.f10.results.toList r) = (
  ∀ (x0 : Bool), x0 = decide ((10 : Int) < 0) → (x0 = true → r = V.str []) ∧ (x0 = false → ∀ (x4 : Bool), x4 = decide ((10 : Int) ≥ 52) → (x4 = true → r = V.str []) ∧ (x4 = false → Int.ofNat 0 ≤ 10 ∧ (10 : Int) < ↑52 ∧ r = V.str [99, 97, 108, 108, 95, 102, 117, 110]))) := by kernel_rfl
theorem n10_13 (r : V) : wC Try.prog sp10 14 noHint (prsOf []) noLs 0 (bodyOf Try.f10) 1000 (initL [.int .i64 11] 0) [] (finK Try.prog none Try.f10.results.toList r) = (
  ∀ (x0 : Bool), x0 = decide ((11 : Int) < 0) → (x0 = true → r = V.str []) ∧ (x0 = false → ∀ (x4 : Bool), x4 = decide ((11 : Int) ≥ 52) → (x4 = true → r = V.str []) ∧ (x4 = false → Int.ofNat 0 ≤ 11 ∧ (11 : Int) < ↑52 ∧ r = V.str [114, 101, 116, 117, 114, 110]))) := by kernel_rfl
theorem n10_14 (r : V) : wC Try.prog sp10 14 noHint (prsOf []) noLs 0 (bodyOf Try.f10) 1000 (initL [.int .i64 12] 0) [] (finK Try.prog none Try.f10.results.toList r) = (
  ∀ (x0 : Bool), x0 = decide ((12 : Int) < 0) → (x0 = true → r = V.str []) ∧ (x0 = false → ∀ (x4 : Bool), x4 = decide ((12 : Int) ≥ 52) → (x4 = true → r = V.str []) ∧ (x4 = false → Int.ofNat 0 ≤ 12 ∧ (12 : Int) < ↑52 ∧ r = V.str [97, 108, 108, 111, 99, 97, 116, 101]))) := by kernel_rfl
theorem n10_15 (r : V) : wC Try.prog sp10 14 noHint (prsOf []) noLs 0 (bodyOf Try.f10) 1000 (initL [.int .i64 13] 0) [] (finK Try.prog none Try.f10.results.toList r) = (
  ∀ (x0 : Bool), x0 = decide ((13 : Int) < 0) → (x0 = true → r = V.str []) ∧ (x0 = false → ∀ (x4 : Bool), x4 = decide ((13 : Int) ≥ 52) → (x4 = true → r = V.str []) ∧ (x4 = false → Int.ofNat 0 ≤ 13 ∧ (13 : Int) < ↑52 ∧ r = V.str [100, 101, 97, 108, 108, 111, 99, 97, 116, 101]))) := by kernel_rfl
theorem n10_16 (r : V) : wC Try.prog sp10 14 noHint (prsOf []) noLs 0 (bodyOf Try.f10) 1000 (initL [.int .i64 14] 0) [] (finK Try.prog none Try.f10.results.toList r) = (
  ∀ (x0 : Bool), x0 = decide ((14 : Int) < 0) → (x0 = true → r = V.str []) ∧ (x0 = false → ∀ (x4 : Bool), x4 = decide ((14 : Int) ≥ 52) → (x4 = true → r = V.str []) ∧ (x4 = false → Int.ofNat 0 ≤ 14 ∧ (14 : Int) < ↑52 ∧ r = V.str [116, 114, 105, 109]))) := by kernel_rfl
theorem n10_17 (r : V) : wC Try.prog sp10 14 noHint (prsOf []) noLs 0 (bodyOf Try.f10) 1000 (initL [.int .i64 15] 0) [] (finK Try.prog none Try.f10.results.toList r) = (
  ∀ (x0 : Bool), x0 = decide ((15 : Int) < 0) → (x0 = true → r = V.str []) ∧ (x0 = false → ∀ (x4 : Bool), x4 = decide ((15 : Int) ≥ 52) → (x4 = true → r = V.str []) ∧ (x4 = false → Int.ofNat 0 ≤ 15 ∧ (15 : Int) < ↑52 ∧ r = V.str [105, 110, 105, 116]))) := by kernel_rfl
theorem n10_18 (r : V) : wC Try.prog sp10 14 noHint (prsOf []) noLs 0 (bodyOf Try.f10) 1000 (initL [.int .i64 16] 0) [] (finK Try.prog none Try.f10.results.toList r) = (
  ∀ (x0 : Bool), x0 = decide ((16 : Int) < 0) → (x0 = true → r = V.str []) ∧ (x0 = false → ∀ (x4 : Bool), x4 = decide ((16 : Int) ≥ 52) → (x4 = true → r = V.str []) ∧ (x4 = false → Int.ofNat 0 ≤ 16 ∧ (16 : Int) < ↑52 ∧ r = V.str [116, 101, 115, 116, 95, 104, 101, 97, 112]))) := by kernel_rfl
theorem n10_19 (r : V) : wC Try.prog sp10 14 noHint (prsOf []) noLs 0 (bodyOf Try.f10) 1000 (initL [.int .i64 17] 0) [] (finK Try.prog none Try.f10.results.toList r) = (
  ∀ (x0 : Bool), x0 = decide ((17 : Int) < 0) → (x0 = true → r = V.str []) ∧ (x0 = false → ∀ (x4 : Bool), x4 = decide ((17 : Int) ≥ 52) → (x4 = true → r = V.str []) ∧ (x4 = false → Int.ofNat 0 ≤ 17 ∧ (17 : Int) < ↑52 ∧ r = V.str [112, 117, 116, 95, 108, 105, 115, 116]))) := by kernel_rfl
theorem n10_20 (r : V) : wC Try.prog sp10 14 noHint (prsOf []) noLs 0 (bodyOf Try.f10) 1000 (initL [.int .i64 18] 0) [] (finK Try.prog none Try.f10.results.toList r) = (
  ∀ (x0 : Bool), x0 = decide ((18 : Int) < 0) → (x0 = true → r = V.str []) ∧ (x0 = false → ∀ (x4 : Bool), x4 = decide ((18 : Int) ≥ 52) → (x4 = true → r = V.str []) ∧ (x4 = false → Int.ofNat 0 ≤ 18 ∧ (18 : Int) < ↑52 ∧ r = V.str [112, 117, 116, 95, 116, 117, 112, 108, 101]))) := by kernel_rfl
theorem n10_21 (r : V) : wC Try.prog sp10 14 noHint (prsOf []) noLs 0 (bodyOf Try.f10) 1000 (initL [.int .i64 19] 0) [] (finK Try.prog none Try.f10.results.toList r) = (
  ∀ (x0 : Bool), x0 = decide ((19 : Int) < 0) → (x0 = true → r = V.str []) ∧ (x0 = false → ∀ (x4 : Bool), x4 = decide ((19 : Int) ≥ 52) → (x4 = true → r = V.str []) ∧ (x4 = false → Int.ofNat 0 ≤ 19 ∧ (19 : Int) < ↑52 ∧ r = V.str [103, 101, 116, 95, 108, 105, 115, 116]))) := by kernel_rfl
theorem n10_22 (r : V) : wC Try.prog sp10 14 noHint (prsOf []) noLs 0 (bodyOf Try.f10) 1000 (initL [.int .i64 20] 0) [] (finK Try.prog none Try.f10.results.toList r) = (
  ∀ (x0 : Bool), x0 = decide ((20 : Int) < 0) → (x0 = true → r = V.str []) ∧ (x0 = false → ∀ (x4 : Bool), x4 = decide ((20 : Int) ≥ 52) → (x4 = true → r = V.str []) ∧ (x4 = false → Int.ofNat 0 ≤ 20 ∧ (20 : Int) < ↑52 ∧ r = V.str [103, 101, 116, 95, 101, 108, 101, 109, 101, 110, 116]))) := by kernel_rfl
theorem n10_23 (r : V) : wC Try.prog sp10 14 noHint (prsOf []) noLs 0 (bodyOf Try.f10) 1000 (initL [.int .i64 21] 0) [] (finK Try.prog none Try.f10.results.toList r) = (
  ∀ (x0 : Bool), x0 = decide ((21 : Int) < 0) → (x0 = true → r = V.str []) ∧ (x0 = false → ∀ (x4 : Bool), x4 = decide ((21 : Int) ≥ 52) → (x4 = true → r = V.str []) ∧ (x4 = false → Int.ofNat 0 ≤ 21 ∧ (21 : Int) < ↑52 ∧ r = V.str [105, 115, 95, 105, 110, 116]))) := by kernel_rfl
theorem n10_24 (r : V) : wC Try.prog sp10 14 noHint (prsOf []) noLs 0 (bodyOf Try.f10) 1000 (initL [.int .i64 22] 0) [] (finK Try.prog none Try.f10.results.toList r) = (
  ∀ (x0 : Bool), x0 = decide ((22 : Int) < 0) → (x0 = true → r = V.str []) ∧ (x0 = false → ∀ (x4 : Bool), x4 = decide ((22 : Int) ≥ 52) → (x4 = true → r = V.str []) ∧ (x4 = false → Int.ofNat 0 ≤ 22 ∧ (22 : Int) < ↑52 ∧ r = V.str [105, 115, 95, 97, 116, 111, 109]))) := by kernel_rfl
theorem n10_25 (r : V) : wC Try.prog sp10 14 noHint (prsOf []) noLs 0 (bodyOf Try.f10) 1000 (initL [.int .i64 23] 0) [] (finK Try.prog none Try.f10.results.toList r) = (
  ∀ (x0 : Bool), x0 = decide ((23 : Int) < 0) → (x0 = true → r = V.str []) ∧ (x0 = false → ∀ (x4 : Bool), x4 = decide ((23 : Int) ≥ 52) → (x4 = true → r = V.str []) ∧ (x4 = false → Int.ofNat 0 ≤ 23 ∧ (23 : Int) < ↑52 ∧ r = V.str [105, 115, 95, 110, 105, 108]))) := by kernel_rfl
theorem n10_26 (r : V) : wC Try.prog sp10 14 noHint (prsOf []) noLs 0 (bodyOf Try.f10) 1000 (initL [.int .i64 24] 0) [] (finK Try.prog none Try.f10.results.toList r) = (
  ∀ (x0 : Bool), x0 = decide ((24 : Int) < 0) → (x0 = true → r = V.str []) ∧ (x0 = false → ∀ (x4 : Bool), x4 = decide ((24 : Int) ≥ 52) → (x4 = true → r = V.str []) ∧ (x4 = false → Int.ofNat 0 ≤ 24 ∧ (24 : Int) < ↑52 ∧ r = V.str [105, 115, 95, 99, 111, 110, 115]))) := by kernel_rfl
theorem n10_27 (r : V) : wC Try.prog sp10 14 noHint (prsOf []) noLs 0 (bodyOf Try.f10) 1000 (initL [.int .i64 25] 0) [] (finK Try.prog none Try.f10.results.toList r) = (
  ∀ (x0 : Bool), x0 = decide ((25 : Int) < 0) → (x0 = true → r = V.str []) ∧ (x0 = false → ∀ (x4 : Bool), x4 = decide ((25 : Int) ≥ 52) → (x4 = true → r = V.str []) ∧ (x4 = false → Int.ofNat 0 ≤ 25 ∧ (25 : Int) < ↑52 ∧ r = V.str [105, 115, 95, 116, 117, 112, 108, 101]))) := by kernel_rfl
theorem n10_28 (r : V) : wC Try.prog sp10 14 noHint (prsOf []) noLs 0 (bodyOf Try.f10) 1000 (initL [.int .i64 26] 0) [] (finK Try.prog none Try.f10.results.toList r) = (
  ∀ (x0 : Bool), x0 = decide ((26 : Int) < 0) → (x0 = true → r = V.str []) ∧ (x0 = false → ∀ (x4 : Bool), x4 = decide ((26 : Int) ≥ 52) → (x4 = true → r = V.str []) ∧ (x4 = false → Int.ofNat 0 ≤ 26 ∧ (26 : Int) < ↑52 ∧ r = V.str [105, 115, 95, 98, 105, 110]))) := by kernel_rfl
theorem n10_29 (r : V) : wC Try.prog sp10 14 noHint (prsOf []) noLs 0 (bodyOf Try.f10) 1000 (initL [.int .i64 27] 0) [] (finK Try.prog none Try.f10.results.toList r) = (
  ∀ (x0 : Bool), x0 = decide ((27 : Int) < 0) → (x0 = true → r = V.str []) ∧ (x0 = false → ∀ (x4 : Bool), x4 = decide ((27 : Int) ≥ 52) → (x4 = true → r = V.str []) ∧ (x4 = false → Int.ofNat 0 ≤ 27 ∧ (27 : Int) < ↑52 ∧ r = V.str [105, 115, 95, 102, 117, 110]))) := by kernel_rfl
theorem n10_30 (r : V) : wC Try.prog sp10 14 noHint (prsOf []) noLs 0 (bodyOf Try.f10) 1000 (initL [.int .i64 28] 0) [] (finK Try.prog none Try.f10.results.toList r) = (
  ∀ (x0 : Bool), x0 = decide ((28 : Int) < 0) → (x0 = true → r = V.str []) ∧ (x0 = false → ∀ (x4 : Bool), x4 = decide ((28 : Int) ≥ 52) → (x4 = true → r = V.str []) ∧ (x4 = false → Int.ofNat 0 ≤ 28 ∧ (28 : Int) < ↑52 ∧ r = V.str [116, 101, 115, 116, 95, 97, 114, 105, 116, 121]))) := by kernel_rfl
theorem n10_31 (r : V) : wC Try.prog sp10 14 noHint (prsOf []) noLs 0 (bodyOf Try.f10) 1000 (initL [.int .i64 29] 0) [] (finK Try.prog none Try.f10.results.toList r) = (
  ∀ (x0 : Bool), x0 = decide ((29 : Int) < 0) → (x0 = true → r = V.str []) ∧ (x0 = false → ∀ (x4 : Bool), x4 = decide ((29 : Int) ≥ 52) → (x4 = true → r = V.str []) ∧ (x4 = false → Int.ofNat 0 ≤ 29 ∧ (29 : Int) < ↑52 ∧ r = V.str [105, 115, 95, 108, 116]))) := by kernel_rfl
theorem n10_32 (r : V) : wC Try.prog sp10 14 noHint (prsOf []) noLs 0 (bodyOf Try.f10) 1000 (initL [.int .i64 30] 0) [] (finK Try.prog none Try.f10.results.toList r) = (
  ∀ (x0 : Bool), x0 = decide ((30 : Int) < 0) → (x0 = true → r = V.str []) ∧ (x0 = false → ∀ (x4 : Bool), x4 = decide ((30 : Int) ≥ 52) → (x4 = true → r = V.str []) ∧ (x4 = false → Int.ofNat 0 ≤ 30 ∧ (30 : Int) < ↑52 ∧ r = V.str [105, 115, 95, 103, 101]))) := by kernel_rfl
theorem n10_33 (r : V) : wC Try.prog sp10 14 noHint (prsOf []) noLs 0 (bodyOf Try.f10) 1000 (initL [.int .i64 31] 0) [] (finK Try.prog none Try.f10.results.toList r) = (
  ∀ (x0 : Bool), x0 = decide ((31 : Int) < 0) → (x0 = true → r = V.str []) ∧ (x0 = false → ∀ (x4 : Bool), x4 = decide ((31 : Int) ≥ 52) → (x4 = true → r = V.str []) ∧ (x4 = false → Int.ofNat 0 ≤ 31 ∧ (31 : Int) < ↑52 ∧ r = V.str [105, 115, 95, 101, 113]))) := by kernel_rfl
theorem n10_34 (r : V) : wC Try.prog sp10 14 noHint (prsOf []) noLs 0 (bodyOf Try.f10) 1000 (initL [.int .i64 32] 0) [] (finK Try.prog none Try.f10.results.toList r) = (
  ∀ (x0 : Bool), x0 = decide ((32 : Int) < 0) → (x0 = true → r = V.str []) ∧ (x0 = false → ∀ (x4 : Bool), x4 = decide ((32 : Int) ≥ 52) → (x4 = true → r = V.str []) ∧ (x4 = false → Int.ofNat 0 ≤ 32 ∧ (32 : Int) < ↑52 ∧ r = V.str [105, 115, 95, 110, 101]))) := by kernel_rfl
theorem n10_35 (r : V) : wC Try.prog sp10 14 noHint (prsOf []) noLs 0 (bodyOf Try.f10) 1000 (initL [.int .i64 33] 0) [] (finK Try.prog none Try.f10.results.toList r) = (
  ∀ (x0 : Bool), x0 = decide ((33 : Int) < 0) → (x0 = true → r = V.str []) ∧ (x0 = false → ∀ (x4 : Bool), x4 = decide ((33 : Int) ≥ 52) → (x4 = true → r = V.str []) ∧ (x4 = false → Int.ofNat 0 ≤ 33 ∧ (33 : Int) < ↑52 ∧ r = V.str [115, 101, 108, 101, 99, 116]))) := by kernel_rfl
theorem n10_36 (r : V) : wC Try.prog sp10 14 noHint (prsOf []) noLs 0 (bodyOf Try.f10) 1000 (initL [.int .i64 34] 0) [] (finK Try.prog none Try.f10.results.toList r) = (
  ∀ (x0 : Bool), x0 = decide ((34 : Int) < 0) → (x0 = true → r = V.str []) ∧ (x0 = false → ∀ (x4 : Bool), x4 = decide ((34 : Int) ≥ 52) → (x4 = true → r = V.str []) ∧ (x4 = false → Int.ofNat 0 ≤ 34 ∧ (34 : Int) < ↑52 ∧ r = V.str [115, 119, 97, 112]))) := by kernel_rfl
theorem n10_37 (r : V) : wC Try.prog sp10 14 noHint (prsOf []) noLs 0 (bodyOf Try.f10) 1000 (initL [.int .i64 35] 0) [] (finK Try.prog none Try.f10.results.toList r) = (
  ∀ (x0 : Bool), x0 = decide ((35 : Int) < 0) → (x0 = true → r = V.str []) ∧ (x0 = false → ∀ (x4 : Bool), x4 = decide ((35 : Int) ≥ 52) → (x4 = true → r = V.str []) ∧ (x4 = false → Int.ofNat 0 ≤ 35 ∧ (35 : Int) < ↑52 ∧ r = V.str [103, 99, 95, 111, 112]))) := by kernel_rfl
theorem n10_38 (r : V) : wC Try.prog sp10 14 noHint (prsOf []) noLs 0 (bodyOf Try.f10) 1000 (initL [.int .i64 36] 0) [] (finK Try.prog none Try.f10.results.toList r) = (
  ∀ (x0 : Bool), x0 = decide ((36 : Int) < 0) → (x0 = true → r = V.str []) ∧ (x0 = false → ∀ (x4 : Bool), x4 = decide ((36 : Int) ≥ 52) → (x4 = true → r = V.str []) ∧ (x4 = false → Int.ofNat 0 ≤ 36 ∧ (36 : Int) < ↑52 ∧ r = V.str [98, 105, 102, 49]))) := by kernel_rfl
theorem n10_39 (r : V) : wC Try.prog sp10 14 noHint (prsOf []) noLs 0 (bodyOf Try.f10) 1000 (initL [.int .i64 37] 0) [] (finK Try.prog none Try.f10.results.toList r) = (
  ∀ (x0 : Bool), x0 = decide ((37 : Int) < 0) → (x0 = true → r = V.str []) ∧ (x0 = false → ∀ (x4 : Bool), x4 = decide ((37 : Int) ≥ 52) → (x4 = true → r = V.str []) ∧ (x4 = false → Int.ofNat 0 ≤ 37 ∧ (37 : Int) < ↑52 ∧ r = V.str [98, 105, 102, 50]))) := by kernel_rfl
theorem n10_40 (r : V) : wC Try.prog sp10 14 noHint (prsOf []) noLs 0 (bodyOf Try.f10) 1000 (initL [.int .i64 38] 0) [] (finK Try.prog none Try.f10.results.toList r) = (
  ∀ (x0 : Bool), x0 = decide ((38 : Int) < 0) → (x0 = true → r = V.str []) ∧ (x0 = false → ∀ (x4 : Bool), x4 = decide ((38 : Int) ≥ 52) → (x4 = true → r = V.str []) ∧ (x4 = false → Int.ofNat 0 ≤ 38 ∧ (38 : Int) < ↑52 ∧ r = V.str [98, 115, 95, 115, 116, 97, 114, 116]))) := by kernel_rfl
theorem n10_41 (r : V) : wC Try.prog sp10 14 noHint (prsOf []) noLs 0 (bodyOf Try.f10) 1000 (initL [.int .i64 39] 0) [] (finK Try.prog none Try.f10.results.toList r) = (
  ∀ (x0 : Bool), x0 = decide ((39 : Int) < 0) → (x0 = true → r = V.str []) ∧ (x0 = false → ∀ (x4 : Bool), x4 = decide ((39 : Int) ≥ 52) → (x4 = true → r = V.str []) ∧ (x4 = false → Int.ofNat 0 ≤ 39 ∧ (39 : Int) < ↑52 ∧ r = V.str [98, 115, 95, 105, 110, 116]))) := by kernel_rfl
theorem n10_42 (r : V) : wC Try.prog sp10 14 noHint (prsOf []) noLs 0 (bodyOf Try.f10) 1000 (initL [.int .i64 40] 0) [] (finK Try.prog none Try.f10.results.toList r) = (
  ∀ (x0 : Bool), x0 = decide ((40 : Int) < 0) → (x0 = true → r = V.str []) ∧ (x0 = false → ∀ (x4 : Bool), x4 = decide ((40 : Int) ≥ 52) → (x4 = true → r = V.str []) ∧ (x4 = false → Int.ofNat 0 ≤ 40 ∧ (40 : Int) < ↑52 ∧ r = V.str [98, 115, 95, 98, 105, 110]))) := by kernel_rfl
theorem n10_43 (r : V) : wC Try.prog sp10 14 noHint (prsOf []) noLs 0 (bodyOf Try.f10) 1000 (initL [.int .i64 41] 0) [] (finK Try.prog none Try.f10.results.toList r) = (
  ∀ (x0 : Bool), x0 = decide ((41 : Int) < 0) → (x0 = true → r = V.str []) ∧ (x0 = false → ∀ (x4 : Bool), x4 = decide ((41 : Int) ≥ 52) → (x4 = true → r = V.str []) ∧ (x4 = false → Int.ofNat 0 ≤ 41 ∧ (41 : Int) < ↑52 ∧ r = V.str [98, 115, 95, 114, 101, 115, 116]))) := by kernel_rfl
theorem n10_44 (r : V) : wC Try.prog sp10 14 noHint (prsOf []) noLs 0 (bodyOf Try.f10) 1000 (initL [.int .i64 42] 0) [] (finK Try.prog none Try.f10.results.toList r) = (
  ∀ (x0 : Bool), x0 = decide ((42 : Int) < 0) → (x0 = true → r = V.str []) ∧ (x0 = false → ∀ (x4 : Bool), x4 = decide ((42 : Int) ≥ 52) → (x4 = true → r = V.str []) ∧ (x4 = false → Int.ofNat 0 ≤ 42 ∧ (42 : Int) < ↑52 ∧ r = V.str [98, 115, 95, 116, 97, 105, 108]))) := by kernel_rfl
theorem n10_45 (r : V) : wC Try.prog sp10 14 noHint (prsOf []) noLs 0 (bodyOf Try.f10) 1000 (initL [.int .i64 43] 0) [] (finK Try.prog none Try.f10.results.toList r) = (
  ∀ (x0 : Bool), x0 = decide ((43 : Int) < 0) → (x0 = true → r = V.str []) ∧ (x0 = false → ∀ (x4 : Bool), x4 = decide ((43 : Int) ≥ 52) → (x4 = true → r = V.str []) ∧ (x4 = false → Int.ofNat 0 ≤ 43 ∧ (43 : Int) < ↑52 ∧ r = V.str [98, 115, 95, 109, 97, 107, 101]))) := by kernel_rfl
theorem n10_46 (r : V) : wC Try.prog sp10 14 noHint (prsOf []) noLs 0 (bodyOf Try.f10) 1000 (initL [.int .i64 44] 0) [] (finK Try.prog none Try.f10.results.toList r) = (
  ∀ (x0 : Bool), x0 = decide ((44 : Int) < 0) → (x0 = true → r = V.str []) ∧ (x0 = false → ∀ (x4 : Bool), x4 = decide ((44 : Int) ≥ 52) → (x4 = true → r = V.str []) ∧ (x4 = false → Int.ofNat 0 ≤ 44 ∧ (44 : Int) < ↑52 ∧ r = V.str [109, 97, 107, 101, 95, 102, 117, 110]))) := by kernel_rfl
theorem n10_47 (r : V) : wC Try.prog sp10 14 noHint (prsOf []) noLs 0 (bodyOf Try.f10) 1000 (initL [.int .i64 45] 0) [] (finK Try.prog none Try.f10.results.toList r) = (
  ∀ (x0 : Bool), x0 = decide ((45 : Int) < 0) → (x0 = true → r = V.str []) ∧ (x0 = false → ∀ (x4 : Bool), x4 = decide ((45 : Int) ≥ 52) → (x4 = true → r = V.str []) ∧ (x4 = false → Int.ofNat 0 ≤ 45 ∧ (45 : Int) < ↑52 ∧ r = V.str [116, 114, 121]))) := by kernel_rfl
theorem n10_48 (r : V) : wC Try.prog sp10 14 noHint (prsOf []) noLs 0 (bodyOf Try.f10) 1000 (initL [.int .i64 46] 0) [] (finK Try.prog none Try.f10.results.toList r) = (
  ∀ (x0 : Bool), x0 = decide ((46 : Int) < 0) → (x0 = true → r = V.str []) ∧ (x0 = false → ∀ (x4 : Bool), x4 = decide ((46 : Int) ≥ 52) → (x4 = true → r = V.str []) ∧ (x4 = false → Int.ofNat 0 ≤ 46 ∧ (46 : Int) < ↑52 ∧ r = V.str [116, 114, 121, 95, 101, 110, 100]))) := by kernel_rfl
theorem n10_49 (r : V) : wC Try.prog sp10 14 noHint (prsOf []) noLs 0 (bodyOf Try.f10) 1000 (initL [.int .i64 47] 0) [] (finK Try.prog none Try.f10.results.toList r) = (
  ∀ (x0 : Bool), x0 = decide ((47 : Int) < 0) → (x0 = true → r = V.str []) ∧ (x0 = false → ∀ (x4 : Bool), x4 = decide ((47 : Int) ≥ 52) → (x4 = true → r = V.str []) ∧ (x4 = false → Int.ofNat 0 ≤ 47 ∧ (47 : Int) < ↑52 ∧ r = V.str [116, 114, 121, 95, 99, 97, 115, 101]))) := by kernel_rfl
theorem n10_50 (r : V) : wC Try.prog sp10 14 noHint (prsOf []) noLs 0 (bodyOf Try.f10) 1000 (initL [.int .i64 48] 0) [] (finK Try.prog none Try.f10.results.toList r) = (
  ∀ (x0 : Bool), x0 = decide ((48 : Int) < 0) → (x0 = true → r = V.str []) ∧ (x0 = false → ∀ (x4 : Bool), x4 = decide ((48 : Int) ≥ 52) → (x4 = true → r = V.str []) ∧ (x4 = false → Int.ofNat 0 ≤ 48 ∧ (48 : Int) < ↑52 ∧ r = V.str [114, 97, 105, 115, 101]))) := by kernel_rfl
theorem n10_51 (r : V) : wC Try.prog sp10 14 noHint (prsOf []) noLs 0 (bodyOf Try.f10) 1000 (initL [.int .i64 49] 0) [] (finK Try.prog none Try.f10.results.toList r) = (
  ∀ (x0 : Bool), x0 = decide ((49 : Int) < 0) → (x0 = true → r = V.str []) ∧ (x0 = false → ∀ (x4 : Bool), x4 = decide ((49 : Int) ≥ 52) → (x4 = true → r = V.str []) ∧ (x4 = false → Int.ofNat 0 ≤ 49 ∧ (49 : Int) < ↑52 ∧ r = V.str [98, 97, 100, 109, 97, 116, 99, 104]))) := by kernel_rfl
theorem n10_52 (r : V) : wC Try.prog sp10 14 noHint (prsOf []) noLs 0 (bodyOf Try.f10) 1000 (initL [.int .i64 50] 0) [] (finK Try.prog none Try.f10.results.toList r) = (
  ∀ (x0 : Bool), x0 = decide ((50 : Int) < 0) → (x0 = true → r = V.str []) ∧ (x0 = false → ∀ (x4 : Bool), x4 = decide ((50 : Int) ≥ 52) → (x4 = true → r = V.str []) ∧ (x4 = false → Int.ofNat 0 ≤ 50 ∧ (50 : Int) < ↑52 ∧ r = V.str [99, 97, 115, 101, 95, 101, 110, 100]))) := by kernel_rfl
theorem n10_53 (r : V) : wC Try.prog sp10 14 noHint (prsOf []) noLs 0 (bodyOf Try.f10) 1000 (initL [.int .i64 51] 0) [] (finK Try.prog none Try.f10.results.toList r) = (
  ∀ (x0 : Bool), x0 = decide ((51 : Int) < 0) → (x0 = true → r = V.str []) ∧ (x0 = false → ∀ (x4 : Bool), x4 = decide ((51 : Int) ≥ 52) → (x4 = true → r = V.str []) ∧ (x4 = false → Int.ofNat 0 ≤ 51 ∧ (51 : Int) < ↑52 ∧ r = V.str [105, 102, 95, 101, 110, 100]))) := by kernel_rfl
theorem n10_54 (r : V) : wC Try.prog sp10 14 noHint (prsOf []) noLs 0 (bodyOf Try.f10) 1000 (initL [.int .i64 52] 0) [] (finK Try.prog none Try.f10.results.toList r) = (
  ∀ (x0 : Bool), x0 = decide ((52 : Int) < 0) → (x0 = true → r = V.str []) ∧ (x0 = false → ∀ (x4 : Bool), x4 = decide ((52 : Int) ≥ 52) → (x4 = true → r = V.str []) ∧ (x4 = false → Int.ofNat 0 ≤ 52 ∧ (52 : Int) < ↑52 ∧ False))) := by kernel_rfl
theorem n10_55 (r : V) : wC Try.prog sp10 14 noHint (prsOf []) noLs 0 (bodyOf Try.f10) 1000 (initL [.int .i64 53] 0) [] (finK Try.prog none Try.f10.results.toList r) = (
  ∀ (x0 : Bool), x0 = decide ((53 : Int) < 0) → (x0 = true → r = V.str []) ∧ (x0 = false → ∀ (x4 : Bool), x4 = decide ((53 : Int) ≥ 52) → (x4 = true → r = V.str []) ∧ (x4 = false → Int.ofNat 0 ≤ 53 ∧ (53 : Int) < ↑52 ∧ False))) := by kernel_rfl
theorem n10_56 (r : V) : wC Try.prog sp10 14 noHint (prsOf []) noLs 0 (bodyOf Try.f10) 1000 (initL [.int .i64 54] 0) [] (finK Try.prog none Try.f10.results.toList r) = (
  ∀ (x0 : Bool), x0 = decide ((54 : Int) < 0) → (x0 = true → r = V.str []) ∧ (x0 = false → ∀ (x4 : Bool), x4 = decide ((54 : Int) ≥ 52) → (x4 = true → r = V.str []) ∧ (x4 = false → Int.ofNat 0 ≤ 54 ∧ (54 : Int) < ↑52 ∧ False))) := by kernel_rfl
theorem nl19_0 (sg : List UInt8) (xs : List V) (n i : Int) (Nx Ex Rt : List V → List Blk → Prop) : wC Try.prog sp19 40 noHint (prsOf [(7, [[], [], [0, 1], [], [2, 0, 1, 3], [4, 2, 0, 1, 3]])]) noLs 0 (lcode Try.f19 0).2 1000 (List.zip [3, 26, 27, 28] [.str sg, .list false xs, .int .i64 n, .int .i64 i]) (List.zip [] []) (endK ends19_0 Nx Ex Rt) = (
  ∀ (x0 : Bool),
    x0 = decide (i < n) →
      (x0 = true →
          0 ≤ i ∧
            i < ↑(List.length xs) ∧
              ∃ n3 n4 l5,
                getV xs i = V.agg [V.int IntKind.i64 n3, V.int IntKind.i64 n4, V.list false l5] ∧
                  0 ≤ i ∧ i < ↑(List.length sg) ∧ ∀ (x6 : Int), x6 = ↑(UInt8.toNat (List.getD sg (Int.toNat i) 0)) → ((x6 == 83) = false ∧ (x6 == 80) = false) ∧ ∀ (x8 : Bool), x8 = !fit1 x6 n3 n4 l5 → (x8 = true → Rt [V.gd true (V.bool false)] []) ∧ (x8 = false → ∀ (x12 : Int), x12 = IntKind.wrap IntKind.i64 (i + 1) → Nx [V.str sg, V.list false xs, V.int IntKind.i64 n, V.int IntKind.i64 x12] [])) ∧
        (x0 = false → Ex [] [])) := by kernel_rfl
theorem n19 (op : Int) (xs : List V) (r : V) : wC Try.prog sp19 40 noHint (prsOf [(7, [[], [], [0, 1], [], [2, 0, 1, 3], [4, 2, 0, 1, 3]])]) ls19 0 (bodyOf Try.f19) 1000 (initL [.agg [.int .i64 op, .list false xs]] 0) [] (finK Try.prog none Try.f19.results.toList r) = (
  ∀ (x0 : Bool),
    x0 = decide (op < 1) →
      (x0 = true → r = V.bool false) ∧
        (x0 = false →
          ∀ (x4 : Bool),
            x4 = decide (op > 51) →
              (x4 = true → r = V.bool false) ∧
                (x4 = false →
                  List.length xs ≤ 9223372036854775807 →
                    ∀ (x9 : Int),
                      x9 = ↑(List.length xs) →
                        List.length (sigS op) ≤ 9223372036854775807 →
                          ∀ (x12 : Int),
                            x12 = ↑(List.length (sigS op)) →
                              ∀ (x14 : Bool),
                                x14 = (x9 != x12) →
                                  (x14 = true → r = V.bool false) ∧
                                    (x14 = false → List.length xs ≤ 9223372036854775807 → ∀ (x19 : Int), x19 = ↑(List.length xs) → x19 = ↑(List.length xs) ∧ List.length xs ≤ 9223372036854775807 ∧ List.length xs = List.length (sigS op) ∧ fitOk (sigS op) xs ∧ Int.ofNat 0 = 0 ∧ (fitF (sigS op) xs = true → r = V.bool true) ∧ (fitF (sigS op) xs = false → r = V.bool false))))) := by kernel_rfl
theorem n14 (r : V) : wC Try.prog sp14 22 noHint (prsOf []) noLs 0 (bodyOf Try.f14) 1000 (initL [] 0) [] (finK Try.prog none Try.f14.results.toList r) = (
  ∀ (x0 : Bool),
    x0 = ([115, 100] == [115, 100]) →
      (x0 = true →
          (Int.negSucc 1 ≤ 11 ∧ Int.ofNat 11 ≤ 54) ∧
            ∀ (x3 : Bool),
              x3 = ([114, 101, 116, 117, 114, 110] == [114, 101, 116, 117, 114, 110]) →
                (x3 = true →
                    ((∀ (v6 : V), List.Mem v6 [V.agg [V.int IntKind.i64 1, V.int IntKind.i64 1, V.list false []], V.agg [V.int IntKind.i64 3, V.int IntKind.i64 0, V.list false []]] → V.sz v6 = 3) ∧ List.length [V.agg [V.int IntKind.i64 1, V.int IntKind.i64 1, V.list false []], V.agg [V.int IntKind.i64 3, V.int IntKind.i64 0, V.list false []]] ≤ 1000) ∧
                      (List.length [V.agg [V.int IntKind.i64 1, V.int IntKind.i64 1, V.list false []], V.agg [V.int IntKind.i64 3, V.int IntKind.i64 0, V.list false []]] = 2 → fitOk [115, 100] [V.agg [V.int IntKind.i64 1, V.int IntKind.i64 1, V.list false []], V.agg [V.int IntKind.i64 3, V.int IntKind.i64 0, V.list false []]]) ∧
                        (fitsB 4 [V.agg [V.int IntKind.i64 1, V.int IntKind.i64 1, V.list false []], V.agg [V.int IntKind.i64 3, V.int IntKind.i64 0, V.list false []]] = true → ((∀ (v10 : V), List.Mem v10 [] → V.sz v10 = 3) ∧ 0 ≤ 1000) ∧ (0 = 2 → fitOk [115, 100] []) ∧ ∀ (x13 : Bool), x13 = !fitsB 4 [] → (x13 = true → r = V.bool (endS 11)) ∧ (x13 = false → r = V.bool false)) ∧
                          (fitsB 4 [V.agg [V.int IntKind.i64 1, V.int IntKind.i64 1, V.list false []], V.agg [V.int IntKind.i64 3, V.int IntKind.i64 0, V.list false []]] = false → r = V.bool false)) ∧
                  (x3 = false → r = V.bool false)) ∧
        (x0 = false → r = V.bool false)) := by kernel_rfl
theorem nl3_0 (op : Int) (Nx Ex Rt : List V → List Blk → Prop) : wC Try.prog sp3 43 noHint (prsOf []) ls3i 0 (lcode Try.f3 0).2 1000 (List.zip [1] [.int .i64 op]) (List.zip [] []) (endK ends3_0 Nx Ex Rt) = (
  ∀ (x0 : Bool),
    x0 = decide (op ≤ 54) →
      (x0 = true →
          ∀ (x3 : Bool),
            x3 = (sigS op != sig9 op) →
              (x3 = true → Rt [V.gd true (V.bool false)] []) ∧
                (x3 = false → (-2 ≤ op ∧ op ≤ 54) ∧ ∀ (x7 : Bool), x7 = (name9 op != name9 op) → (x7 = true → Rt [V.gd true (V.bool false)] []) ∧ (x7 = false → ∀ (x11 : Bool), x11 = (endS op != endS op) → (x11 = true → Rt [V.gd true (V.bool false)] []) ∧ (x11 = false → tabOk op ∧ Int.ofNat 1 ≤ 1 ∧ ∀ (x15 : Int), x15 = IntKind.wrap IntKind.i64 (op + 1) → Nx [V.int IntKind.i64 x15] [])))) ∧
        (x0 = false → Ex [] [])) := by kernel_rfl
theorem nl3_1 (op k : Int) (Nx Ex Rt : List V → List Blk → Prop) : wC Try.prog sp3 43 noHint (prsOf []) noLs 2 (lin (lcode Try.f3 0) 0).2 1000 (List.zip [1, 2] [.int .i64 op, .int .i64 k]) (List.zip [] []) (endK ends3_1 Nx Ex Rt) = (
  ∀ (x0 : Bool),
    x0 = decide (k < op) →
      (x0 = true → ∀ (x3 : Bool), x3 = decide (op ≤ 51) → (x3 = true → (-2 ≤ k ∧ k ≤ 54) ∧ (-2 ≤ op ∧ op ≤ 54) ∧ ∀ (x6 : Bool), x6 = (name9 k == name9 op) → (x6 = true → Rt [V.gd true (V.bool false)] []) ∧ (x6 = false → ∀ (x10 : Int), x10 = IntKind.wrap IntKind.i64 (k + 1) → Nx [V.int IntKind.i64 op, V.int IntKind.i64 x10] [])) ∧ (x3 = false → Ex [V.int IntKind.i64 op] [])) ∧
        (x0 = false → Ex [V.int IntKind.i64 op] [])) := by kernel_rfl
theorem n3 (r : V) : wC Try.prog sp3 43 noHint (prsOf []) ls3 0 (bodyOf Try.f3) 1000 (initL [] 0) [] (finK Try.prog none Try.f3.results.toList r) = (
  Int.negSucc 1 = -2 ∧ r = V.bool true) := by kernel_rfl
end GoL
