/- A part of the proof: a logic for programs of this kind, proved sound over the model; contracts of functions; plain laws. -/
import Derived.Test.YtjnagpmhkpkngaaAD
set_option linter.all false
open Go Go.Proofs
namespace GoL
set_option linter.unusedVariables false
set_option maxRecDepth 100000
theorem nl35_0 (ls : List V) (n i : Int) (Nx Ex Rt : List V → List Blk → Prop) : wC Try.prog sp35 21 noHint (prsOf []) noLs 0 (lcode Try.f35 0).2 1000 (List.zip [6, 7, 8] [.list false ls, .int .i64 n, .int .i64 i]) (List.zip [] []) (endK ends35_0 Nx Ex Rt) = (
  ∀ (x0 : Bool),
    x0 = decide (i < n) →
      (x0 = true →
          0 ≤ i ∧
            i < ↑(List.length ls) ∧
              ∃ n3 n4 l5,
                getV ls i = V.agg [V.int IntKind.i64 n3, V.int IntKind.i64 n4, V.list false l5] ∧
                  ∀ (x6 : Bool), x6 = !plainB n3 n4 l5 → (x6 = true → Rt [V.gd true (V.bool false)] []) ∧ (x6 = false → ∀ (x10 : Bool), x10 = !srcB n3 n4 → (x10 = true → Rt [V.gd true (V.bool false)] []) ∧ (x10 = false → ∀ (x14 : Int), x14 = IntKind.wrap IntKind.i64 (i + 1) → Nx [V.list false ls, V.int IntKind.i64 n, V.int IntKind.i64 x14] []))) ∧
        (x0 = false → Ex [] [])) := by kernel_rfl
theorem n35 (t n : Int) (ls : List V) (r : V) : wC Try.prog sp35 21 noHint (prsOf []) ls35 0 (bodyOf Try.f35) 1000 (initL [.agg [.int .i64 t, .int .i64 n, .list false ls]] 0) [] (finK Try.prog none Try.f35.results.toList r) = (
  List.length ls ≤ 9223372036854775807 → ∀ (x1 : Int), x1 = ↑(List.length ls) → x1 = ↑(List.length ls) ∧ Int.ofNat 0 = 0 ∧ List.length ls ≤ 9223372036854775807 ∧ (∀ (u3 : V), List.Mem u3 ls → Typed Try.prog 140737488351232 28 u3) ∧ (AllS (listP ls) (↑(List.length ls)) 1 0 → r = V.bool true) ∧ (¬AllS (listP ls) (↑(List.length ls)) 1 0 → r = V.bool false)) := by kernel_rfl
theorem n40 (t n : Int) (ls : List V) (r : V) : wC Try.prog sp40 21 noHint (prsOf []) noLs 0 (bodyOf Try.f40) 1000 (initL [.agg [.int .i64 t, .int .i64 n, .list false ls]] 0) [] (finK Try.prog none Try.f40.results.toList r) = (
  ∀ (x0 : Bool),
    x0 = (t == 3) →
      (x0 = true → ∀ (x3 : Bool), x3 = decide (n < 16) → (x3 = true → r = V.bool true) ∧ (x3 = false → ∀ (x7 : Bool), x7 = (t == 4) → (x7 = true → ∀ (x10 : Bool), x10 = decide (n < 12) → r = V.bool x10) ∧ (x7 = false → r = V.bool false))) ∧ (x0 = false → ∀ (x14 : Bool), x14 = (t == 4) → (x14 = true → ∀ (x17 : Bool), x17 = decide (n < 12) → r = V.bool x17) ∧ (x14 = false → r = V.bool false))) := by kernel_rfl
theorem n39 (t n : Int) (ls : List V) (r : V) : wC Try.prog sp39 20 noHint (prsOf []) noLs 0 (bodyOf Try.f39) 1000 (initL [.agg [.int .i64 t, .int .i64 n, .list false ls]] 0) [] (finK Try.prog none Try.f39.results.toList r) = (
  (regB t n = true → r = V.bool true) ∧ (regB t n = false → ∀ (x2 : Bool), x2 = (t == 1) → (x2 = true → r = V.bool true) ∧ (x2 = false → ∀ (x6 : Bool), x6 = (t == 2) → (x6 = true → r = V.bool true) ∧ (x6 = false → ∀ (x10 : Bool), x10 = (t == 6) → r = V.bool x10)))) := by kernel_rfl
theorem nl33_0 (t n : Int) (ls : List V) (i : Int) (Nx Ex Rt : List V → List Blk → Prop) : wC Try.prog sp33 90 noHint (prsOf []) noLs 1 (lcode Try.f33 0).2 1001 (List.zip [3, 5] [.ptr 1000 0 [], .int .i64 i]) (List.zip [1000] [⟨none, false, .agg [.int .i64 t, .int .i64 n, .list false ls]⟩]) (endK ends33_0 Nx Ex Rt) = (
  List.length ls ≤ 9223372036854775807 →
    ∀ (x1 : Int),
      x1 = ↑(List.length ls) →
        ∀ (x3 : Bool),
          x3 = decide (i < x1) →
            (x3 = true →
                0 ≤ i ∧
                  i < ↑(List.length ls) ∧
                    ∃ n6 n7 l8,
                      getV ls i = V.agg [V.int IntKind.i64 n6, V.int IntKind.i64 n7, V.list false l8] ∧
                        ∀ (x9 : Bool), x9 = !srcB n6 n7 → (x9 = true → Rt [V.gd true (V.bool false)] []) ∧ (x9 = false → ∀ (x13 : Int), x13 = IntKind.wrap IntKind.i64 (i + 1) → Nx [V.ptr 1000 0 [], V.int IntKind.i64 x13] [{ arr := none, fz := false, t := V.agg [V.int IntKind.i64 t, V.int IntKind.i64 n, V.list false ls] }])) ∧
              (x3 = false → Ex [V.ptr 1000 0 []] [{ arr := none, fz := false, t := V.agg [V.int IntKind.i64 t, V.int IntKind.i64 n, V.list false ls] }])) := by kernel_rfl
theorem n33 (c t n : Int) (ls : List V) (r : V) : wC Try.prog sp33 90 noHint (prsOf []) ls33 0 (bodyOf Try.f33) 1000 (initL [.int .u8 c, .agg [.int .i64 t, .int .i64 n, .list false ls]] 0) [] (finK Try.prog none Try.f33.results.toList r) = (
  ∀ (x0 : Bool),
    x0 = (c == 117) →
      (x0 = true → ∀ (x3 : Bool), x3 = (t == 0) → r = V.bool x3) ∧
        (x0 = false →
          ∀ (x6 : Bool),
            x6 = (c == 97) →
              (x6 = true → ∀ (x9 : Bool), x9 = (t == 2) → (x9 = true → ∀ (x12 : Bool), x12 = decide (n > 0) → r = V.bool x12) ∧ (x9 = false → r = V.bool false)) ∧
                (x6 = false →
                  ∀ (x16 : Bool),
                    x16 = (c == 115) →
                      (x16 = true → r = V.bool (srcB t n)) ∧
                        (x16 = false →
                          ∀ (x20 : Bool),
                            x20 = (c == 100) →
                              (x20 = true → r = V.bool (regB t n)) ∧
                                (x20 = false →
                                  ∀ (x24 : Bool),
                                    x24 = (c == 120) →
                                      (x24 = true → (regB t n = true → ∀ (x28 : Bool), x28 = (t == 3) → r = V.bool x28) ∧ (regB t n = false → r = V.bool false)) ∧
                                        (x24 = false →
                                          ∀ (x32 : Bool),
                                            x32 = (c == 121) →
                                              (x32 = true → (regB t n = true → ∀ (x36 : Bool), x36 = (t == 4) → r = V.bool x36) ∧ (regB t n = false → r = V.bool false)) ∧
                                                (x32 = false →
                                                  ∀ (x40 : Bool),
                                                    x40 = (c == 108) →
                                                      (x40 = true → ∀ (x43 : Bool), x43 = (t == 5) → (x43 = true → ∀ (x46 : Bool), x46 = decide (n > 0) → r = V.bool x46) ∧ (x43 = false → r = V.bool false)) ∧
                                                        (x40 = false →
                                                          ∀ (x50 : Bool),
                                                            x50 = (c == 102) →
                                                              (x50 = true → ∀ (x53 : Bool), x53 = (t == 5) → r = V.bool x53) ∧
                                                                (x50 = false →
                                                                  ∀ (x56 : Bool),
                                                                    x56 = (c == 80) →
                                                                      (x56 = true → ∀ (x59 : Bool), x59 = (t == 7) → (x59 = true → (∀ (u62 : V), List.Mem u62 ls → Typed Try.prog 140737488351232 28 u62) ∧ r = V.bool (dec (inK ls))) ∧ (x59 = false → r = V.bool false)) ∧
                                                                        (x56 = false → Int.ofNat 0 = 0 ∧ (∀ (u66 : V), List.Mem u66 ls → Typed Try.prog 140737488351232 28 u66) ∧ (AllS (srcP ls) (↑(List.length ls)) 1 0 → ∀ (x69 : Bool), x69 = (t == 7) → r = V.bool x69) ∧ (¬AllS (srcP ls) (↑(List.length ls)) 1 0 → r = V.bool false))))))))))) := by kernel_rfl
theorem n32a (t n : Int) (ls : List V) (r : V) : wC Try.prog spNil 80 noHint (prsOf []) noLs 0 (bodyOf Try.f32) 1000 (initL [.agg [.int .i64 t, .int .i64 n, .list false ls]] 0) [] (finK Try.prog none Try.f32.results.toList r) = (
  ∀ (x0 : Bool),
    x0 = decide (t < 0) →
      (x0 = true → r = V.bool false) ∧
        (x0 = false →
          ∀ (x4 : Bool),
            x4 = decide (t > 7) →
              (x4 = true → r = V.bool false) ∧
                (x4 = false →
                  ∀ (x8 : Bool),
                    x8 = (t != 7) →
                      (x8 = true →
                          List.length ls ≤ 9223372036854775807 →
                            ∀ (x12 : Int),
                              x12 = ↑(List.length ls) →
                                ∀ (x14 : Bool),
                                  x14 = decide (x12 > 0) →
                                    (x14 = true → r = V.bool false) ∧
                                      (x14 = false →
                                        ∀ (x18 : Bool),
                                          x18 = (t == 1) →
                                            (x18 = true → ∀ (x21 : Bool), x21 = decide (n ≥ -576460752303423488) → (x21 = true → ∀ (x24 : Bool), x24 = decide (n < 576460752303423488) → r = V.bool x24) ∧ (x21 = false → r = V.bool false)) ∧
                                              (x18 = false → ∀ (x28 : Bool), x28 = (t != 7) → (x28 = true → ∀ (x31 : Bool), x31 = decide (n ≥ 0) → (x31 = true → ∀ (x34 : Bool), x34 = decide (n < 268435456) → r = V.bool x34) ∧ (x31 = false → r = V.bool false)) ∧ (x28 = false → False)))) ∧
                        (x8 = false →
                          (false = true → r = V.bool false) ∧
                            (false = false →
                              ∀ (x41 : Bool),
                                x41 = (t == 1) →
                                  (x41 = true → ∀ (x44 : Bool), x44 = decide (n ≥ -576460752303423488) → (x44 = true → ∀ (x47 : Bool), x47 = decide (n < 576460752303423488) → r = V.bool x47) ∧ (x44 = false → r = V.bool false)) ∧
                                    (x41 = false → ∀ (x51 : Bool), x51 = (t != 7) → (x51 = true → ∀ (x54 : Bool), x54 = decide (n ≥ 0) → (x54 = true → ∀ (x57 : Bool), x57 = decide (n < 268435456) → r = V.bool x57) ∧ (x54 = false → r = V.bool false)) ∧ (x51 = false → False))))))) := by kernel_rfl
theorem nl32_0 (t n : Int) (ls : List V) (i : Int) (Nx Ex Rt : List V → List Blk → Prop) : wC Try.prog sp32 80 noHint (prsOf []) noLs 1 (lcode Try.f32 0).2 1001 (List.zip [1, 3] [.ptr 1000 0 [], .int .i64 i]) (List.zip [1000] [⟨none, false, .agg [.int .i64 t, .int .i64 n, .list false ls]⟩]) (endK ends32_0 Nx Ex Rt) = (
  List.length ls ≤ 9223372036854775807 →
    ∀ (x1 : Int),
      x1 = ↑(List.length ls) →
        ∀ (x3 : Bool),
          x3 = decide (i < x1) →
            (x3 = true →
                0 ≤ i ∧
                  i < ↑(List.length ls) ∧
                    ∃ n6 n7 l8,
                      getV ls i = V.agg [V.int IntKind.i64 n6, V.int IntKind.i64 n7, V.list false l8] ∧
                        ∀ (x9 : Bool),
                          x9 = (n6 == 7) →
                            (x9 = true → Rt [V.gd true (V.bool false)] []) ∧
                              (x9 = false →
                                0 ≤ i ∧
                                  i < ↑(List.length ls) ∧
                                    ∃ n13 n14 l15,
                                      getV ls i = V.agg [V.int IntKind.i64 n13, V.int IntKind.i64 n14, V.list false l15] ∧
                                        (n13 == 7) = false ∧ ∀ (x16 : Bool), x16 = !chk0 n13 n14 l15 → (x16 = true → Rt [V.gd true (V.bool false)] []) ∧ (x16 = false → ∀ (x20 : Int), x20 = IntKind.wrap IntKind.i64 (i + 1) → Nx [V.ptr 1000 0 [], V.int IntKind.i64 x20] [{ arr := none, fz := false, t := V.agg [V.int IntKind.i64 t, V.int IntKind.i64 n, V.list false ls] }]))) ∧
              (x3 = false → Ex [V.ptr 1000 0 []] [{ arr := none, fz := false, t := V.agg [V.int IntKind.i64 t, V.int IntKind.i64 n, V.list false ls] }])) := by kernel_rfl
theorem n32 (t n : Int) (ls : List V) (r : V) : wC Try.prog sp32 80 noHint (prsOf []) ls32 0 (bodyOf Try.f32) 1000 (initL [.agg [.int .i64 t, .int .i64 n, .list false ls]] 0) [] (finK Try.prog none Try.f32.results.toList r) = (
  ∀ (x0 : Bool),
    x0 = decide (t < 0) →
      (x0 = true → r = V.bool false) ∧
        (x0 = false →
          ∀ (x4 : Bool),
            x4 = decide (t > 7) →
              (x4 = true → r = V.bool false) ∧
                (x4 = false →
                  ∀ (x8 : Bool),
                    x8 = (t != 7) →
                      (x8 = true →
                          List.length ls ≤ 9223372036854775807 →
                            ∀ (x12 : Int),
                              x12 = ↑(List.length ls) →
                                ∀ (x14 : Bool),
                                  x14 = decide (x12 > 0) →
                                    (x14 = true → r = V.bool false) ∧
                                      (x14 = false →
                                        ∀ (x18 : Bool),
                                          x18 = (t == 1) →
                                            (x18 = true → ∀ (x21 : Bool), x21 = decide (n ≥ -576460752303423488) → (x21 = true → ∀ (x24 : Bool), x24 = decide (n < 576460752303423488) → r = V.bool x24) ∧ (x21 = false → r = V.bool false)) ∧
                                              (x18 = false →
                                                ∀ (x28 : Bool),
                                                  x28 = (t != 7) →
                                                    (x28 = true → ∀ (x31 : Bool), x31 = decide (n ≥ 0) → (x31 = true → ∀ (x34 : Bool), x34 = decide (n < 268435456) → r = V.bool x34) ∧ (x31 = false → r = V.bool false)) ∧
                                                      (x28 = false →
                                                        Int.ofNat 0 = 0 ∧
                                                          (∀ (u38 : V), List.Mem u38 ls → Typed Try.prog 140737488351232 28 u38) ∧
                                                            (AllS (subOk ls) (↑(List.length ls)) 1 0 → ∀ (x41 : Bool), x41 = (n == 0) → (x41 = true → List.length ls ≤ 9223372036854775807 → ∀ (x45 : Int), x45 = ↑(List.length ls) → ∀ (x47 : Bool), x47 = decide (x45 ≤ 40) → r = V.bool x47) ∧ (x41 = false → r = V.bool false)) ∧ (¬AllS (subOk ls) (↑(List.length ls)) 1 0 → r = V.bool false))))) ∧
                        (x8 = false →
                          (false = true → r = V.bool false) ∧
                            (false = false →
                              ∀ (x54 : Bool),
                                x54 = (t == 1) →
                                  (x54 = true → ∀ (x57 : Bool), x57 = decide (n ≥ -576460752303423488) → (x57 = true → ∀ (x60 : Bool), x60 = decide (n < 576460752303423488) → r = V.bool x60) ∧ (x57 = false → r = V.bool false)) ∧
                                    (x54 = false →
                                      ∀ (x64 : Bool),
                                        x64 = (t != 7) →
                                          (x64 = true → ∀ (x67 : Bool), x67 = decide (n ≥ 0) → (x67 = true → ∀ (x70 : Bool), x70 = decide (n < 268435456) → r = V.bool x70) ∧ (x67 = false → r = V.bool false)) ∧
                                            (x64 = false →
                                              Int.ofNat 0 = 0 ∧
                                                (∀ (u74 : V), List.Mem u74 ls → Typed Try.prog 140737488351232 28 u74) ∧
                                                  (AllS (subOk ls) (↑(List.length ls)) 1 0 → ∀ (x77 : Bool), x77 = (n == 0) → (x77 = true → List.length ls ≤ 9223372036854775807 → ∀ (x81 : Int), x81 = ↑(List.length ls) → ∀ (x83 : Bool), x83 = decide (x81 ≤ 40) → r = V.bool x83) ∧ (x77 = false → r = V.bool false)) ∧ (¬AllS (subOk ls) (↑(List.length ls)) 1 0 → r = V.bool false)))))))) := by kernel_rfl
theorem nl41_0 (ls : List V) (i : Int) (Nx Ex Rt : List V → List Blk → Prop) : wC Try.prog sp41 76 noHint (prsOf [(11, [[], [], [0, 1], [2, 0, 1], [3, 2, 0, 1], [], [], [5, 6], [7, 5, 6], [8, 7, 5, 6], [4, 3, 2, 0, 1, 9, 8, 7, 5, 6], [10, 4, 3, 2, 0, 1, 9, 8, 7, 5, 6], [11, 10, 4, 3, 2, 0, 1, 9, 8, 7, 5, 6], [11, 10, 4, 3, 2, 0, 1, 9, 8, 7, 5, 6], [12, 11, 10, 4, 3, 2, 0, 1, 9, 8, 7, 5, 6, 13], [14, 12, 11, 10, 4, 3, 2, 0, 1, 9, 8, 7, 5, 6, 13], [15, 14, 12, 11, 10, 4, 3, 2, 0, 1, 9, 8, 7, 5, 6, 13], [11, 10, 4, 3, 2, 0, 1, 9, 8, 7, 5, 6], [11, 10, 4, 3, 2, 0, 1, 9, 8, 7, 5, 6], [17, 11, 10, 4, 3, 2, 0, 1, 9, 8, 7, 5, 6, 18], [19, 17, 11, 10, 4, 3, 2, 0, 1, 9, 8, 7, 5, 6, 18], [20, 19, 17, 11, 10, 4, 3, 2, 0, 1, 9, 8, 7, 5, 6, 18], [16, 15, 14, 12, 11, 10, 4, 3, 2, 0, 1, 9, 8, 7, 5, 6, 13, 21, 20, 19, 17, 18], [11, 10, 4, 3, 2, 0, 1, 9, 8, 7, 5, 6, 22, 16, 15, 14, 12, 13, 21, 20, 19, 17, 18]])]) ls41i 0 (lcode Try.f41 0).2 1000 (List.zip [0, 3] [.list false ls, .int .i64 i]) (List.zip [] []) (endK ends41_0 Nx Ex Rt) = (
  List.length ls ≤ 9223372036854775807 →
    ∀ (x1 : Int),
      x1 = ↑(List.length ls) →
        ∀ (x3 : Bool),
          x3 = decide (i < x1) →
            (x3 = true →
                0 ≤ i ∧
                  i < ↑(List.length ls) ∧
                    ∃ n6 n7 l8,
                      getV ls i = V.agg [V.int IntKind.i64 n6, V.int IntKind.i64 n7, V.list false l8] ∧
                        ∀ (x9 : Bool),
                          x9 = (n6 != 1) →
                            (x9 = true →
                                0 ≤ i ∧
                                  i < ↑(List.length ls) ∧
                                    ∃ n12 n13 l14,
                                      getV ls i = V.agg [V.int IntKind.i64 n12, V.int IntKind.i64 n13, V.list false l14] ∧
                                        ∀ (x15 : Bool),
                                          x15 = (n12 != 2) →
                                            (x15 = true → Rt [V.gd true (V.bool false)] []) ∧
                                              (x15 = false →
                                                ∀ (x19 : Int),
                                                  x19 = IntKind.wrap IntKind.i64 (i + 1) →
                                                    0 ≤ x19 ∧
                                                      x19 < ↑(List.length ls) ∧
                                                        ∃ n21 n22 l23,
                                                          getV ls x19 = V.agg [V.int IntKind.i64 n21, V.int IntKind.i64 n22, V.list false l23] ∧
                                                            ∀ (x24 : Bool),
                                                              x24 = (n21 != 5) →
                                                                (x24 = true → Rt [V.gd true (V.bool false)] []) ∧
                                                                  (x24 = false →
                                                                    ∀ (x28 : Int),
                                                                      x28 = IntKind.wrap IntKind.i64 (i + 1) →
                                                                        0 ≤ x28 ∧
                                                                          x28 < ↑(List.length ls) ∧
                                                                            ∃ n30 n31 l32,
                                                                              getV ls x28 = V.agg [V.int IntKind.i64 n30, V.int IntKind.i64 n31, V.list false l32] ∧
                                                                                ∀ (x33 : Bool),
                                                                                  x33 = (n31 == 0) →
                                                                                    (x33 = true → Rt [V.gd true (V.bool false)] []) ∧
                                                                                      (x33 = false →
                                                                                        Int.ofNat 0 = 0 ∧
                                                                                          0 ≤ i ∧
                                                                                            i < ↑(List.length ls) ∧
                                                                                              List.length ls ≤ 9223372036854775807 ∧
                                                                                                (∀ (u37 : V), List.Mem u37 ls → Typed Try.prog 140737488351232 28 u37) ∧ (AllS (diffP ls i) i 2 0 → ∀ (x40 : Int), x40 = IntKind.wrap IntKind.i64 (i + 2) → Nx [V.list false ls, V.int IntKind.i64 x40] []) ∧ (¬AllS (diffP ls i) i 2 0 → Rt [V.gd true (V.bool false)] []))))) ∧
                              (x9 = false →
                                ∀ (x44 : Int),
                                  x44 = IntKind.wrap IntKind.i64 (i + 1) →
                                    0 ≤ x44 ∧
                                      x44 < ↑(List.length ls) ∧
                                        ∃ n46 n47 l48,
                                          getV ls x44 = V.agg [V.int IntKind.i64 n46, V.int IntKind.i64 n47, V.list false l48] ∧
                                            ∀ (x49 : Bool),
                                              x49 = (n46 != 5) →
                                                (x49 = true → Rt [V.gd true (V.bool false)] []) ∧
                                                  (x49 = false →
                                                    ∀ (x53 : Int),
                                                      x53 = IntKind.wrap IntKind.i64 (i + 1) →
                                                        0 ≤ x53 ∧
                                                          x53 < ↑(List.length ls) ∧
                                                            ∃ n55 n56 l57,
                                                              getV ls x53 = V.agg [V.int IntKind.i64 n55, V.int IntKind.i64 n56, V.list false l57] ∧
                                                                ∀ (x58 : Bool),
                                                                  x58 = (n56 == 0) →
                                                                    (x58 = true → Rt [V.gd true (V.bool false)] []) ∧
                                                                      (x58 = false →
                                                                        Int.ofNat 0 = 0 ∧
                                                                          0 ≤ i ∧
                                                                            i < ↑(List.length ls) ∧
                                                                              List.length ls ≤ 9223372036854775807 ∧ (∀ (u62 : V), List.Mem u62 ls → Typed Try.prog 140737488351232 28 u62) ∧ (AllS (diffP ls i) i 2 0 → ∀ (x65 : Int), x65 = IntKind.wrap IntKind.i64 (i + 2) → Nx [V.list false ls, V.int IntKind.i64 x65] []) ∧ (¬AllS (diffP ls i) i 2 0 → Rt [V.gd true (V.bool false)] []))))) ∧
              (x3 = false → Ex [] [])) := by kernel_rfl
theorem nl41_1 (ls : List V) (i k : Int) (Nx Ex Rt : List V → List Blk → Prop) : wC Try.prog sp41 76 noHint (prsOf [(11, [[], [], [0, 1], [2, 0, 1], [3, 2, 0, 1], [], [], [5, 6], [7, 5, 6], [8, 7, 5, 6], [4, 3, 2, 0, 1, 9, 8, 7, 5, 6], [10, 4, 3, 2, 0, 1, 9, 8, 7, 5, 6], [11, 10, 4, 3, 2, 0, 1, 9, 8, 7, 5, 6], [11, 10, 4, 3, 2, 0, 1, 9, 8, 7, 5, 6], [12, 11, 10, 4, 3, 2, 0, 1, 9, 8, 7, 5, 6, 13], [14, 12, 11, 10, 4, 3, 2, 0, 1, 9, 8, 7, 5, 6, 13], [15, 14, 12, 11, 10, 4, 3, 2, 0, 1, 9, 8, 7, 5, 6, 13], [11, 10, 4, 3, 2, 0, 1, 9, 8, 7, 5, 6], [11, 10, 4, 3, 2, 0, 1, 9, 8, 7, 5, 6], [17, 11, 10, 4, 3, 2, 0, 1, 9, 8, 7, 5, 6, 18], [19, 17, 11, 10, 4, 3, 2, 0, 1, 9, 8, 7, 5, 6, 18], [20, 19, 17, 11, 10, 4, 3, 2, 0, 1, 9, 8, 7, 5, 6, 18], [16, 15, 14, 12, 11, 10, 4, 3, 2, 0, 1, 9, 8, 7, 5, 6, 13, 21, 20, 19, 17, 18], [11, 10, 4, 3, 2, 0, 1, 9, 8, 7, 5, 6, 22, 16, 15, 14, 12, 13, 21, 20, 19, 17, 18]])]) noLs 2 (lin (lcode Try.f41 0) 0).2 1000 (List.zip [0, 3, 4] [.list false ls, .int .i64 i, .int .i64 k]) (List.zip [] []) (endK ends41_1 Nx Ex Rt) = (
  ∀ (x0 : Bool),
    x0 = decide (k < i) →
      (x0 = true →
          0 ≤ k ∧
            k < ↑(List.length ls) ∧
              ∃ n3 n4 l5,
                getV ls k = V.agg [V.int IntKind.i64 n3, V.int IntKind.i64 n4, V.list false l5] ∧
                  0 ≤ i ∧
                    i < ↑(List.length ls) ∧
                      ∃ n6 n7 l8,
                        getV ls i = V.agg [V.int IntKind.i64 n6, V.int IntKind.i64 n7, V.list false l8] ∧
                          ∀ (x9 : Bool),
                            x9 = (n3 == n6) →
                              (x9 = true →
                                  0 ≤ k ∧
                                    k < ↑(List.length ls) ∧
                                      ∃ n12 n13 l14,
                                        getV ls k = V.agg [V.int IntKind.i64 n12, V.int IntKind.i64 n13, V.list false l14] ∧
                                          0 ≤ i ∧
                                            i < ↑(List.length ls) ∧ ∃ n15 n16 l17, getV ls i = V.agg [V.int IntKind.i64 n15, V.int IntKind.i64 n16, V.list false l17] ∧ ∀ (x18 : Bool), x18 = (n13 == n16) → (x18 = true → Rt [V.gd true (V.bool false)] []) ∧ (x18 = false → ∀ (x22 : Int), x22 = IntKind.wrap IntKind.i64 (k + 2) → Nx [V.list false ls, V.int IntKind.i64 i, V.int IntKind.i64 x22] [])) ∧
                                (x9 = false → ∀ (x25 : Int), x25 = IntKind.wrap IntKind.i64 (k + 2) → Nx [V.list false ls, V.int IntKind.i64 i, V.int IntKind.i64 x25] [])) ∧
        (x0 = false → Ex [V.list false ls, V.int IntKind.i64 i] [])) := by kernel_rfl
theorem n41 (ls : List V) (r : V) : wC Try.prog sp41 76 noHint (prsOf [(11, [[], [], [0, 1], [2, 0, 1], [3, 2, 0, 1], [], [], [5, 6], [7, 5, 6], [8, 7, 5, 6], [4, 3, 2, 0, 1, 9, 8, 7, 5, 6], [10, 4, 3, 2, 0, 1, 9, 8, 7, 5, 6], [11, 10, 4, 3, 2, 0, 1, 9, 8, 7, 5, 6], [11, 10, 4, 3, 2, 0, 1, 9, 8, 7, 5, 6], [12, 11, 10, 4, 3, 2, 0, 1, 9, 8, 7, 5, 6, 13], [14, 12, 11, 10, 4, 3, 2, 0, 1, 9, 8, 7, 5, 6, 13], [15, 14, 12, 11, 10, 4, 3, 2, 0, 1, 9, 8, 7, 5, 6, 13], [11, 10, 4, 3, 2, 0, 1, 9, 8, 7, 5, 6], [11, 10, 4, 3, 2, 0, 1, 9, 8, 7, 5, 6], [17, 11, 10, 4, 3, 2, 0, 1, 9, 8, 7, 5, 6, 18], [19, 17, 11, 10, 4, 3, 2, 0, 1, 9, 8, 7, 5, 6, 18], [20, 19, 17, 11, 10, 4, 3, 2, 0, 1, 9, 8, 7, 5, 6, 18], [16, 15, 14, 12, 11, 10, 4, 3, 2, 0, 1, 9, 8, 7, 5, 6, 13, 21, 20, 19, 17, 18], [11, 10, 4, 3, 2, 0, 1, 9, 8, 7, 5, 6, 22, 16, 15, 14, 12, 13, 21, 20, 19, 17, 18]])]) ls41 0 (bodyOf Try.f41) 1000 (initL [.list false ls] 0) [] (finK Try.prog none Try.f41.results.toList r) = (
  List.length ls ≤ 9223372036854775807 →
    ∀ (x1 : Int),
      x1 = ↑(List.length ls) →
        (IntKind.i64 = IntKind.i64 ∧ (Int.ofNat 2 = 0 → False)) ∧
          (True → ∀ (x5 : Int), x5 = Int.tmod x1 2 → ∀ (x7 : Bool), x7 = (x5 != 0) → (x7 = true → r = V.bool false) ∧ (x7 = false → Int.ofNat 0 = 0 ∧ Int.tmod (↑(List.length ls)) 2 = 0 ∧ (∀ (u11 : V), List.Mem u11 ls → Typed Try.prog 140737488351232 28 u11) ∧ (AllS (pairR ls) (↑(List.length ls)) 2 0 → r = V.bool true) ∧ (¬AllS (pairR ls) (↑(List.length ls)) 2 0 → r = V.bool false)))) := by kernel_rfl
theorem nl34_0 (t n : Int) (ls : List V) (m i : Int) (Nx Ex Rt : List V → List Blk → Prop) : wC Try.prog sp34 77 noHint (prsOf [(14, [[], [0], [], [1, 0, 2], [3, 1, 0, 2], [4, 3, 1, 0, 2], [], [6], [5, 4, 3, 1, 0, 2, 7, 6], [8, 5, 4, 3, 1, 0, 2, 7, 6], [9, 8, 5, 4, 3, 1, 0, 2, 7, 6], [10, 9, 8, 5, 4, 3, 1, 0, 2, 7, 6], [9, 8, 5, 4, 3, 1, 0, 2, 7, 6], [11, 10, 9, 8, 5, 4, 3, 1, 0, 2, 7, 6, 12], [13, 11, 10, 9, 8, 5, 4, 3, 1, 0, 2, 7, 6, 12], [14, 13, 11, 10, 9, 8, 5, 4, 3, 1, 0, 2, 7, 6, 12], [9, 8, 5, 4, 3, 1, 0, 2, 7, 6], [16, 9, 8, 5, 4, 3, 1, 0, 2, 7, 6], [15, 14, 13, 11, 10, 9, 8, 5, 4, 3, 1, 0, 2, 7, 6, 12, 17, 16], [9, 8, 5, 4, 3, 1, 0, 2, 7, 6, 18, 15, 14, 13, 11, 10, 12, 17, 16]])]) ls34i 0 (lcode Try.f34 0).2 1001 (List.zip [1, 12, 13, 14] [.ptr 1000 0 [], .list false ls, .int .i64 m, .int .i64 i]) (List.zip [1000] [⟨none, false, .agg [.int .i64 t, .int .i64 n, .list false ls]⟩]) (endK ends34_0 Nx Ex Rt) = (
  ∀ (x0 : Bool),
    x0 = decide (i < m) →
      (x0 = true →
          0 ≤ i ∧
            i < ↑(List.length ls) ∧
              ∃ n3 n4 l5,
                getV ls i = V.agg [V.int IntKind.i64 n3, V.int IntKind.i64 n4, V.list false l5] ∧
                  ∀ (x6 : Bool),
                    x6 = !plainB n3 n4 l5 →
                      (x6 = true → Rt [V.gd true (V.bool false)] []) ∧
                        (x6 = false →
                          (IntKind.i64 = IntKind.i64 ∧ (Int.ofNat 2 = 0 → False)) ∧
                            (True →
                              ∀ (x12 : Int),
                                x12 = Int.tmod i 2 →
                                  ∀ (x14 : Bool),
                                    x14 = (x12 == 1) →
                                      (x14 = true →
                                          ∀ (x17 : Bool),
                                            x17 = (n3 == 5) →
                                              (x17 = true →
                                                  ∀ (x20 : Bool),
                                                    x20 = decide (n4 > 0) →
                                                      (x20 = true → ∀ (x23 : Int), x23 = IntKind.wrap IntKind.i64 (i + 1) → Nx [V.ptr 1000 0 [], V.list false ls, V.int IntKind.i64 m, V.int IntKind.i64 x23] [{ arr := none, fz := false, t := V.agg [V.int IntKind.i64 t, V.int IntKind.i64 n, V.list false ls] }]) ∧
                                                        (x20 = false →
                                                          (IntKind.i64 = IntKind.i64 ∧ (Int.ofNat 2 = 0 → False)) ∧
                                                            (True →
                                                              ∀ (x28 : Int),
                                                                x28 = Int.tmod i 2 →
                                                                  ∀ (x30 : Bool),
                                                                    x30 = (x28 == 1) →
                                                                      (x30 = true → Rt [V.gd true (V.bool false)] []) ∧
                                                                        (x30 = false →
                                                                          ∀ (x34 : Bool),
                                                                            x34 = (n3 != 1) →
                                                                              (x34 = true →
                                                                                  ∀ (x37 : Bool),
                                                                                    x37 = (n3 != 2) →
                                                                                      (x37 = true → Rt [V.gd true (V.bool false)] []) ∧
                                                                                        (x37 = false →
                                                                                          Int.ofNat 0 = 0 ∧
                                                                                            0 ≤ i ∧
                                                                                              i < ↑(List.length ls) ∧
                                                                                                List.length ls ≤ 9223372036854775807 ∧
                                                                                                  (∀ (u41 : V), List.Mem u41 ls → Typed Try.prog 140737488351232 28 u41) ∧
                                                                                                    tagV (getV ls i) = n3 ∧
                                                                                                      numV (getV ls i) = n4 ∧
                                                                                                        (AllS (diffP ls i) i 2 0 → ∀ (x44 : Int), x44 = IntKind.wrap IntKind.i64 (i + 1) → Nx [V.ptr 1000 0 [], V.list false ls, V.int IntKind.i64 m, V.int IntKind.i64 x44] [{ arr := none, fz := false, t := V.agg [V.int IntKind.i64 t, V.int IntKind.i64 n, V.list false ls] }]) ∧
                                                                                                          (¬AllS (diffP ls i) i 2 0 → Rt [V.gd true (V.bool false)] []))) ∧
                                                                                (x34 = false →
                                                                                  (false = true → Rt [V.gd true (V.bool false)] []) ∧
                                                                                    (false = false →
                                                                                      Int.ofNat 0 = 0 ∧
                                                                                        0 ≤ i ∧
                                                                                          i < ↑(List.length ls) ∧
                                                                                            List.length ls ≤ 9223372036854775807 ∧
                                                                                              (∀ (u50 : V), List.Mem u50 ls → Typed Try.prog 140737488351232 28 u50) ∧
                                                                                                tagV (getV ls i) = n3 ∧
                                                                                                  numV (getV ls i) = n4 ∧
                                                                                                    (AllS (diffP ls i) i 2 0 → ∀ (x53 : Int), x53 = IntKind.wrap IntKind.i64 (i + 1) → Nx [V.ptr 1000 0 [], V.list false ls, V.int IntKind.i64 m, V.int IntKind.i64 x53] [{ arr := none, fz := false, t := V.agg [V.int IntKind.i64 t, V.int IntKind.i64 n, V.list false ls] }]) ∧
                                                                                                      (¬AllS (diffP ls i) i 2 0 → Rt [V.gd true (V.bool false)] []))))))) ∧
                                                (x17 = false →
                                                  (IntKind.i64 = IntKind.i64 ∧ (Int.ofNat 2 = 0 → False)) ∧
                                                    (True →
                                                      ∀ (x59 : Int),
                                                        x59 = Int.tmod i 2 →
                                                          ∀ (x61 : Bool),
                                                            x61 = (x59 == 1) →
                                                              (x61 = true → Rt [V.gd true (V.bool false)] []) ∧
                                                                (x61 = false →
                                                                  ∀ (x65 : Bool),
                                                                    x65 = (n3 != 1) →
                                                                      (x65 = true →
                                                                          ∀ (x68 : Bool),
                                                                            x68 = (n3 != 2) →
                                                                              (x68 = true → Rt [V.gd true (V.bool false)] []) ∧
                                                                                (x68 = false →
                                                                                  Int.ofNat 0 = 0 ∧
                                                                                    0 ≤ i ∧
                                                                                      i < ↑(List.length ls) ∧
                                                                                        List.length ls ≤ 9223372036854775807 ∧
                                                                                          (∀ (u72 : V), List.Mem u72 ls → Typed Try.prog 140737488351232 28 u72) ∧
                                                                                            tagV (getV ls i) = n3 ∧
                                                                                              numV (getV ls i) = n4 ∧
                                                                                                (AllS (diffP ls i) i 2 0 → ∀ (x75 : Int), x75 = IntKind.wrap IntKind.i64 (i + 1) → Nx [V.ptr 1000 0 [], V.list false ls, V.int IntKind.i64 m, V.int IntKind.i64 x75] [{ arr := none, fz := false, t := V.agg [V.int IntKind.i64 t, V.int IntKind.i64 n, V.list false ls] }]) ∧
                                                                                                  (¬AllS (diffP ls i) i 2 0 → Rt [V.gd true (V.bool false)] []))) ∧
                                                                        (x65 = false →
                                                                          (false = true → Rt [V.gd true (V.bool false)] []) ∧
                                                                            (false = false →
                                                                              Int.ofNat 0 = 0 ∧
                                                                                0 ≤ i ∧
                                                                                  i < ↑(List.length ls) ∧
                                                                                    List.length ls ≤ 9223372036854775807 ∧
                                                                                      (∀ (u81 : V), List.Mem u81 ls → Typed Try.prog 140737488351232 28 u81) ∧
                                                                                        tagV (getV ls i) = n3 ∧
                                                                                          numV (getV ls i) = n4 ∧
                                                                                            (AllS (diffP ls i) i 2 0 → ∀ (x84 : Int), x84 = IntKind.wrap IntKind.i64 (i + 1) → Nx [V.ptr 1000 0 [], V.list false ls, V.int IntKind.i64 m, V.int IntKind.i64 x84] [{ arr := none, fz := false, t := V.agg [V.int IntKind.i64 t, V.int IntKind.i64 n, V.list false ls] }]) ∧
                                                                                              (¬AllS (diffP ls i) i 2 0 → Rt [V.gd true (V.bool false)] []))))))) ∧
                                        (x14 = false →
                                          (IntKind.i64 = IntKind.i64 ∧ (Int.ofNat 2 = 0 → False)) ∧
                                            (True →
                                              ∀ (x90 : Int),
                                                x90 = Int.tmod i 2 →
                                                  ∀ (x92 : Bool),
                                                    x92 = (x90 == 1) →
                                                      (x92 = true → Rt [V.gd true (V.bool false)] []) ∧
                                                        (x92 = false →
                                                          ∀ (x96 : Bool),
                                                            x96 = (n3 != 1) →
                                                              (x96 = true →
                                                                  ∀ (x99 : Bool),
                                                                    x99 = (n3 != 2) →
                                                                      (x99 = true → Rt [V.gd true (V.bool false)] []) ∧
                                                                        (x99 = false →
                                                                          Int.ofNat 0 = 0 ∧
                                                                            0 ≤ i ∧
                                                                              i < ↑(List.length ls) ∧
                                                                                List.length ls ≤ 9223372036854775807 ∧
                                                                                  (∀ (u103 : V), List.Mem u103 ls → Typed Try.prog 140737488351232 28 u103) ∧
                                                                                    tagV (getV ls i) = n3 ∧
                                                                                      numV (getV ls i) = n4 ∧
                                                                                        (AllS (diffP ls i) i 2 0 → ∀ (x106 : Int), x106 = IntKind.wrap IntKind.i64 (i + 1) → Nx [V.ptr 1000 0 [], V.list false ls, V.int IntKind.i64 m, V.int IntKind.i64 x106] [{ arr := none, fz := false, t := V.agg [V.int IntKind.i64 t, V.int IntKind.i64 n, V.list false ls] }]) ∧
                                                                                          (¬AllS (diffP ls i) i 2 0 → Rt [V.gd true (V.bool false)] []))) ∧
                                                                (x96 = false →
                                                                  (false = true → Rt [V.gd true (V.bool false)] []) ∧
                                                                    (false = false →
                                                                      Int.ofNat 0 = 0 ∧
                                                                        0 ≤ i ∧
                                                                          i < ↑(List.length ls) ∧
                                                                            List.length ls ≤ 9223372036854775807 ∧
                                                                              (∀ (u112 : V), List.Mem u112 ls → Typed Try.prog 140737488351232 28 u112) ∧
                                                                                tagV (getV ls i) = n3 ∧
                                                                                  numV (getV ls i) = n4 ∧
                                                                                    (AllS (diffP ls i) i 2 0 → ∀ (x115 : Int), x115 = IntKind.wrap IntKind.i64 (i + 1) → Nx [V.ptr 1000 0 [], V.list false ls, V.int IntKind.i64 m, V.int IntKind.i64 x115] [{ arr := none, fz := false, t := V.agg [V.int IntKind.i64 t, V.int IntKind.i64 n, V.list false ls] }]) ∧
                                                                                      (¬AllS (diffP ls i) i 2 0 → Rt [V.gd true (V.bool false)] []))))))))) ∧
        (x0 = false → Ex [] [])) := by kernel_rfl
theorem nl34_1 (t n : Int) (ls : List V) (i k p q : Int) (lq : List V) (l2 : List V) (m j : Int) (Nx Ex Rt : List V → List Blk → Prop) : wC Try.prog sp34 77 noHint (prsOf [(14, [[], [0], [], [1, 0, 2], [3, 1, 0, 2], [4, 3, 1, 0, 2], [], [6], [5, 4, 3, 1, 0, 2, 7, 6], [8, 5, 4, 3, 1, 0, 2, 7, 6], [9, 8, 5, 4, 3, 1, 0, 2, 7, 6], [10, 9, 8, 5, 4, 3, 1, 0, 2, 7, 6], [9, 8, 5, 4, 3, 1, 0, 2, 7, 6], [11, 10, 9, 8, 5, 4, 3, 1, 0, 2, 7, 6, 12], [13, 11, 10, 9, 8, 5, 4, 3, 1, 0, 2, 7, 6, 12], [14, 13, 11, 10, 9, 8, 5, 4, 3, 1, 0, 2, 7, 6, 12], [9, 8, 5, 4, 3, 1, 0, 2, 7, 6], [16, 9, 8, 5, 4, 3, 1, 0, 2, 7, 6], [15, 14, 13, 11, 10, 9, 8, 5, 4, 3, 1, 0, 2, 7, 6, 12, 17, 16], [9, 8, 5, 4, 3, 1, 0, 2, 7, 6, 18, 15, 14, 13, 11, 10, 12, 17, 16]])]) noLs 3 (lin (lcode Try.f34 0) 0).2 1006 (List.zip [1, 3, 4, 5, 12, 13, 14] [.ptr 1000 0 [], .int .i64 i, .ptr 1005 0 [], .int .i64 k, .list false l2, .int .i64 m, .int .i64 j]) (List.zip [1000, 1005] [⟨none, false, .agg [.int .i64 t, .int .i64 n, .list false ls]⟩, ⟨none, false, .agg [.int .i64 p, .int .i64 q, .list false lq]⟩]) (endK ends34_1 Nx Ex Rt) = (
  ∀ (x0 : Bool),
    x0 = decide (k < i) →
      (x0 = true →
          0 ≤ k ∧
            k < ↑(List.length ls) ∧
              ∃ n3 n4 l5,
                getV ls k = V.agg [V.int IntKind.i64 n3, V.int IntKind.i64 n4, V.list false l5] ∧
                  ∀ (x6 : Bool),
                    x6 = (n3 == p) →
                      (x6 = true →
                          0 ≤ k ∧
                            k < ↑(List.length ls) ∧
                              ∃ n9 n10 l11,
                                getV ls k = V.agg [V.int IntKind.i64 n9, V.int IntKind.i64 n10, V.list false l11] ∧
                                  ∀ (x12 : Bool),
                                    x12 = (n10 == q) →
                                      (x12 = true → Rt [V.gd true (V.bool false)] []) ∧
                                        (x12 = false →
                                          ∀ (x16 : Int),
                                            x16 = IntKind.wrap IntKind.i64 (k + 2) →
                                              Nx [V.ptr 1000 0 [], V.int IntKind.i64 i, V.ptr 1005 0 [], V.int IntKind.i64 x16, V.list false l2, V.int IntKind.i64 m, V.int IntKind.i64 j] [{ arr := none, fz := false, t := V.agg [V.int IntKind.i64 t, V.int IntKind.i64 n, V.list false ls] }, { arr := none, fz := false, t := V.agg [V.int IntKind.i64 p, V.int IntKind.i64 q, V.list false lq] }])) ∧
                        (x6 = false →
                          ∀ (x19 : Int),
                            x19 = IntKind.wrap IntKind.i64 (k + 2) →
                              Nx [V.ptr 1000 0 [], V.int IntKind.i64 i, V.ptr 1005 0 [], V.int IntKind.i64 x19, V.list false l2, V.int IntKind.i64 m, V.int IntKind.i64 j] [{ arr := none, fz := false, t := V.agg [V.int IntKind.i64 t, V.int IntKind.i64 n, V.list false ls] }, { arr := none, fz := false, t := V.agg [V.int IntKind.i64 p, V.int IntKind.i64 q, V.list false lq] }])) ∧
        (x0 = false → Ex [V.ptr 1000 0 [], V.list false l2, V.int IntKind.i64 m, V.int IntKind.i64 j] [{ arr := none, fz := false, t := V.agg [V.int IntKind.i64 t, V.int IntKind.i64 n, V.list false ls] }])) := by kernel_rfl
theorem n34 (t n : Int) (ls : List V) (r : V) : wC Try.prog sp34 77 noHint (prsOf [(14, [[], [0], [], [1, 0, 2], [3, 1, 0, 2], [4, 3, 1, 0, 2], [], [6], [5, 4, 3, 1, 0, 2, 7, 6], [8, 5, 4, 3, 1, 0, 2, 7, 6], [9, 8, 5, 4, 3, 1, 0, 2, 7, 6], [10, 9, 8, 5, 4, 3, 1, 0, 2, 7, 6], [9, 8, 5, 4, 3, 1, 0, 2, 7, 6], [11, 10, 9, 8, 5, 4, 3, 1, 0, 2, 7, 6, 12], [13, 11, 10, 9, 8, 5, 4, 3, 1, 0, 2, 7, 6, 12], [14, 13, 11, 10, 9, 8, 5, 4, 3, 1, 0, 2, 7, 6, 12], [9, 8, 5, 4, 3, 1, 0, 2, 7, 6], [16, 9, 8, 5, 4, 3, 1, 0, 2, 7, 6], [15, 14, 13, 11, 10, 9, 8, 5, 4, 3, 1, 0, 2, 7, 6, 12, 17, 16], [9, 8, 5, 4, 3, 1, 0, 2, 7, 6, 18, 15, 14, 13, 11, 10, 12, 17, 16]])]) ls34 0 (bodyOf Try.f34) 1000 (initL [.agg [.int .i64 t, .int .i64 n, .list false ls]] 0) [] (finK Try.prog none Try.f34.results.toList r) = (
  List.length ls ≤ 9223372036854775807 →
    ∀ (x1 : Int),
      x1 = ↑(List.length ls) →
        (IntKind.i64 = IntKind.i64 ∧ (Int.ofNat 2 = 0 → False)) ∧
          (True →
            ∀ (x5 : Int),
              x5 = Int.tmod x1 2 →
                ∀ (x7 : Bool),
                  x7 = (x5 != 0) →
                    (x7 = true → r = V.bool false) ∧
                      (x7 = false →
                        List.length ls ≤ 9223372036854775807 → ∀ (x12 : Int), x12 = ↑(List.length ls) → ls = ls ∧ x12 = ↑(List.length ls) ∧ Int.ofNat 0 = 0 ∧ (∀ (u14 : V), List.Mem u14 ls → Typed Try.prog 140737488351232 28 u14) ∧ List.length ls ≤ 9223372036854775807 ∧ (AllS (okO ls) (↑(List.length ls)) 1 0 → r = V.bool true) ∧ (¬AllS (okO ls) (↑(List.length ls)) 1 0 → r = V.bool false)))) := by kernel_rfl
end GoL
