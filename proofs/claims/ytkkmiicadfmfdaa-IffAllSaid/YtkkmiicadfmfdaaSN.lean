/- A part of the proof: a logic for programs of this kind, proved sound over the model; contracts of functions; plain laws. -/
import Derived.Test.YtkkmiicadfmfdaaSD
set_option linter.all false
open Go Go.Proofs
namespace GoL
set_option linter.unusedVariables false
set_option maxRecDepth 100000
theorem n9 (r : V) : wC Try.prog sp9 54 noHint (prsOf []) noLs 0 (bodyOf Try.f9) 1000 (initL [] 0) [] (finK Try.prog none Try.f9.results.toList r) = (
  FitC [] ∧
    (mkE [] = 0 →
        ∀ (rows1 : List V),
          rows1 =
              [V.int IntKind.u8 70, V.int IntKind.u8 79, V.int IntKind.u8 82, V.int IntKind.u8 49, V.int IntKind.u8 (IntKind.wrap IntKind.u8 (Int.fdiv (4 + sumC []) 16777216)), V.int IntKind.u8 (IntKind.wrap IntKind.u8 (Int.fdiv (4 + sumC []) 65536)), V.int IntKind.u8 (IntKind.wrap IntKind.u8 (Int.fdiv (4 + sumC []) 256)), V.int IntKind.u8 (IntKind.wrap IntKind.u8 (4 + sumC [])),
                V.int IntKind.u8 66, V.int IntKind.u8 69, V.int IntKind.u8 65, V.int IntKind.u8 77] →
            FitC [V.agg [V.str [84, 101, 115, 116], V.str [120]]] ∧
              (mkE [V.agg [V.str [84, 101, 115, 116], V.str [120]]] = 0 →
                  ∀ (rows4 : List V),
                    rows4 =
                        [V.int IntKind.u8 70, V.int IntKind.u8 79, V.int IntKind.u8 82, V.int IntKind.u8 49, V.int IntKind.u8 (IntKind.wrap IntKind.u8 (Int.fdiv (4 + sumC [V.agg [V.str [84, 101, 115, 116], V.str [120]]]) 16777216)), V.int IntKind.u8 (IntKind.wrap IntKind.u8 (Int.fdiv (4 + sumC [V.agg [V.str [84, 101, 115, 116], V.str [120]]]) 65536)),
                          V.int IntKind.u8 (IntKind.wrap IntKind.u8 (Int.fdiv (4 + sumC [V.agg [V.str [84, 101, 115, 116], V.str [120]]]) 256)), V.int IntKind.u8 (IntKind.wrap IntKind.u8 (4 + sumC [V.agg [V.str [84, 101, 115, 116], V.str [120]]])), V.int IntKind.u8 66, V.int IntKind.u8 69, V.int IntKind.u8 65, V.int IntKind.u8 77, V.int IntKind.u8 ↑84, V.int IntKind.u8 ↑101, V.int IntKind.u8 ↑115,
                          V.int IntKind.u8 ↑116, V.int IntKind.u8 (IntKind.wrap IntKind.u8 (Int.fdiv (↑(List.length [120])) 16777216)), V.int IntKind.u8 (IntKind.wrap IntKind.u8 (Int.fdiv (↑(List.length [120])) 65536)), V.int IntKind.u8 (IntKind.wrap IntKind.u8 (Int.fdiv (↑(List.length [120])) 256)), V.int IntKind.u8 (IntKind.wrap IntKind.u8 ↑(List.length [120])), V.int IntKind.u8 ↑120,
                          V.int IntKind.u8 0, V.int IntKind.u8 0, V.int IntKind.u8 0] →
                      List.length rows4 = List.length rows4 ∧
                        BLs rows4 ∧
                          ∀ (l6 : List V) (e7 : Int),
                            parseS rows4 = (l6, e7) →
                              ∀ (x9 : Bool),
                                x9 = (0 == 0) →
                                  (x9 = true →
                                      List.length rows1 = List.length rows1 ∧
                                        (List.length rows1 ≤ 9223372036854775807 →
                                          ∀ (x13 : Int),
                                            x13 = ↑(List.length rows1) →
                                              ∀ (x15 : Bool),
                                                x15 = (x13 == 12) →
                                                  (x15 = true →
                                                      ∀ (x18 : Bool),
                                                        x18 = (0 == 0) →
                                                          (x18 = true →
                                                              List.length rows4 = List.length rows4 ∧
                                                                (List.length rows4 ≤ 9223372036854775807 →
                                                                  ∀ (x22 : Int),
                                                                    x22 = ↑(List.length rows4) →
                                                                      ∀ (x24 : Bool),
                                                                        x24 = (x22 == 24) →
                                                                          (x24 = true →
                                                                              ∀ (x27 : Bool),
                                                                                x27 = (e7 == 0) →
                                                                                  (x27 = true →
                                                                                      List.length l6 ≤ 9223372036854775807 →
                                                                                        ∀ (x31 : Int), x31 = ↑(List.length l6) → ∀ (x33 : Bool), x33 = (x31 == 1) → (x33 = true → Int.ofNat 0 ≤ 0 ∧ (0 : Int) < ↑(List.length l6) ∧ ∃ s36 s37, getV l6 0 = V.agg [V.str s36, V.str s37] ∧ ∀ (x38 : Bool), x38 = (s37 == [120]) → r = V.bool x38) ∧ (x33 = false → r = V.bool false)) ∧
                                                                                    (x27 = false → r = V.bool false)) ∧
                                                                            (x24 = false → r = V.bool false))) ∧
                                                            (x18 = false → r = V.bool false)) ∧
                                                    (x15 = false → r = V.bool false))) ∧
                                    (x9 = false → r = V.bool false)) ∧
                ∀ (e46 : Int),
                  e46 = mkE [V.agg [V.str [84, 101, 115, 116], V.str [120]]] →
                    e46 ≠ 0 →
                      BLs [] ∧
                        ∀ (l49 : List V) (e50 : Int),
                          ([], 3) = (l49, e50) →
                            ∀ (x52 : Bool),
                              x52 = (0 == 0) →
                                (x52 = true →
                                    List.length rows1 = List.length rows1 ∧
                                      (List.length rows1 ≤ 9223372036854775807 →
                                        ∀ (x56 : Int),
                                          x56 = ↑(List.length rows1) →
                                            ∀ (x58 : Bool),
                                              x58 = (x56 == 12) →
                                                (x58 = true →
                                                    ∀ (x61 : Bool),
                                                      x61 = (e46 == 0) →
                                                        (x61 = true →
                                                            ∀ (x64 : Bool),
                                                              x64 = (0 == 24) →
                                                                (x64 = true →
                                                                    ∀ (x67 : Bool),
                                                                      x67 = (e50 == 0) →
                                                                        (x67 = true →
                                                                            List.length l49 ≤ 9223372036854775807 → ∀ (x71 : Int), x71 = ↑(List.length l49) → ∀ (x73 : Bool), x73 = (x71 == 1) → (x73 = true → Int.ofNat 0 ≤ 0 ∧ (0 : Int) < ↑(List.length l49) ∧ ∃ s76 s77, getV l49 0 = V.agg [V.str s76, V.str s77] ∧ ∀ (x78 : Bool), x78 = (s77 == [120]) → r = V.bool x78) ∧ (x73 = false → r = V.bool false)) ∧
                                                                          (x67 = false → r = V.bool false)) ∧
                                                                  (x64 = false → r = V.bool false)) ∧
                                                          (x61 = false → r = V.bool false)) ∧
                                                  (x58 = false → r = V.bool false))) ∧
                                  (x52 = false → r = V.bool false)) ∧
      ∀ (e86 : Int),
        e86 = mkE [] →
          e86 ≠ 0 →
            FitC [V.agg [V.str [84, 101, 115, 116], V.str [120]]] ∧
              (mkE [V.agg [V.str [84, 101, 115, 116], V.str [120]]] = 0 →
                  ∀ (rows90 : List V),
                    rows90 =
                        [V.int IntKind.u8 70, V.int IntKind.u8 79, V.int IntKind.u8 82, V.int IntKind.u8 49, V.int IntKind.u8 (IntKind.wrap IntKind.u8 (Int.fdiv (4 + sumC [V.agg [V.str [84, 101, 115, 116], V.str [120]]]) 16777216)), V.int IntKind.u8 (IntKind.wrap IntKind.u8 (Int.fdiv (4 + sumC [V.agg [V.str [84, 101, 115, 116], V.str [120]]]) 65536)),
                          V.int IntKind.u8 (IntKind.wrap IntKind.u8 (Int.fdiv (4 + sumC [V.agg [V.str [84, 101, 115, 116], V.str [120]]]) 256)), V.int IntKind.u8 (IntKind.wrap IntKind.u8 (4 + sumC [V.agg [V.str [84, 101, 115, 116], V.str [120]]])), V.int IntKind.u8 66, V.int IntKind.u8 69, V.int IntKind.u8 65, V.int IntKind.u8 77, V.int IntKind.u8 ↑84, V.int IntKind.u8 ↑101, V.int IntKind.u8 ↑115,
                          V.int IntKind.u8 ↑116, V.int IntKind.u8 (IntKind.wrap IntKind.u8 (Int.fdiv (↑(List.length [120])) 16777216)), V.int IntKind.u8 (IntKind.wrap IntKind.u8 (Int.fdiv (↑(List.length [120])) 65536)), V.int IntKind.u8 (IntKind.wrap IntKind.u8 (Int.fdiv (↑(List.length [120])) 256)), V.int IntKind.u8 (IntKind.wrap IntKind.u8 ↑(List.length [120])), V.int IntKind.u8 ↑120,
                          V.int IntKind.u8 0, V.int IntKind.u8 0, V.int IntKind.u8 0] →
                      List.length rows90 = List.length rows90 ∧
                        BLs rows90 ∧
                          ∀ (l92 : List V) (e93 : Int),
                            parseS rows90 = (l92, e93) →
                              ∀ (x95 : Bool),
                                x95 = (e86 == 0) →
                                  (x95 = true →
                                      ∀ (x98 : Bool),
                                        x98 = (0 == 12) →
                                          (x98 = true →
                                              ∀ (x101 : Bool),
                                                x101 = (0 == 0) →
                                                  (x101 = true →
                                                      List.length rows90 = List.length rows90 ∧
                                                        (List.length rows90 ≤ 9223372036854775807 →
                                                          ∀ (x105 : Int),
                                                            x105 = ↑(List.length rows90) →
                                                              ∀ (x107 : Bool),
                                                                x107 = (x105 == 24) →
                                                                  (x107 = true →
                                                                      ∀ (x110 : Bool),
                                                                        x110 = (e93 == 0) →
                                                                          (x110 = true →
                                                                              List.length l92 ≤ 9223372036854775807 →
                                                                                ∀ (x114 : Int), x114 = ↑(List.length l92) → ∀ (x116 : Bool), x116 = (x114 == 1) → (x116 = true → Int.ofNat 0 ≤ 0 ∧ (0 : Int) < ↑(List.length l92) ∧ ∃ s119 s120, getV l92 0 = V.agg [V.str s119, V.str s120] ∧ ∀ (x121 : Bool), x121 = (s120 == [120]) → r = V.bool x121) ∧ (x116 = false → r = V.bool false)) ∧
                                                                            (x110 = false → r = V.bool false)) ∧
                                                                    (x107 = false → r = V.bool false))) ∧
                                                    (x101 = false → r = V.bool false)) ∧
                                            (x98 = false → r = V.bool false)) ∧
                                    (x95 = false → r = V.bool false)) ∧
                ∀ (e129 : Int),
                  e129 = mkE [V.agg [V.str [84, 101, 115, 116], V.str [120]]] →
                    e129 ≠ 0 →
                      BLs [] ∧
                        ∀ (l132 : List V) (e133 : Int),
                          ([], 3) = (l132, e133) →
                            ∀ (x135 : Bool),
                              x135 = (e86 == 0) →
                                (x135 = true →
                                    ∀ (x138 : Bool),
                                      x138 = (0 == 12) →
                                        (x138 = true →
                                            ∀ (x141 : Bool),
                                              x141 = (e129 == 0) →
                                                (x141 = true →
                                                    ∀ (x144 : Bool),
                                                      x144 = (0 == 24) →
                                                        (x144 = true →
                                                            ∀ (x147 : Bool),
                                                              x147 = (e133 == 0) →
                                                                (x147 = true →
                                                                    List.length l132 ≤ 9223372036854775807 →
                                                                      ∀ (x151 : Int), x151 = ↑(List.length l132) → ∀ (x153 : Bool), x153 = (x151 == 1) → (x153 = true → Int.ofNat 0 ≤ 0 ∧ (0 : Int) < ↑(List.length l132) ∧ ∃ s156 s157, getV l132 0 = V.agg [V.str s156, V.str s157] ∧ ∀ (x158 : Bool), x158 = (s157 == [120]) → r = V.bool x158) ∧ (x153 = false → r = V.bool false)) ∧
                                                                  (x147 = false → r = V.bool false)) ∧
                                                          (x144 = false → r = V.bool false)) ∧
                                                  (x141 = false → r = V.bool false)) ∧
                                          (x138 = false → r = V.bool false)) ∧
                                  (x135 = false → r = V.bool false)) := by kernel_rfl
theorem n3 (vs ls : List V) (r : V) : wC Try.prog sp3 65 noHint (prsOf []) noLs 0 (bodyOf Try.f3) 1000 (initL [.list false vs, .list false ls] 0) [] (finK Try.prog none Try.f3.results.toList r) = (
  List.length vs ≤ 9223372036854775807 →
    ∀ (x1 : Int),
      x1 = ↑(List.length vs) →
        ∀ (x3 : Bool),
          x3 = decide (x1 > 70000) →
            (x3 = true → r = V.bool true) ∧
              (x3 = false →
                CLs ls ∧
                  ∀ (x7 : Bool),
                    x7 = !decJ (fewP ls) →
                      (x7 = true → r = V.bool true) ∧
                        (x7 = false →
                          FitC ls ∧
                            (mkE ls = 0 →
                                ∀ (rows12 : List V),
                                  rows12 =
                                      V.int IntKind.u8 70 ::
                                        V.int IntKind.u8 79 ::
                                          V.int IntKind.u8 82 ::
                                            V.int IntKind.u8 49 ::
                                              V.int IntKind.u8 (IntKind.wrap IntKind.u8 (Int.fdiv (4 + sumC ls) 16777216)) ::
                                                V.int IntKind.u8 (IntKind.wrap IntKind.u8 (Int.fdiv (4 + sumC ls) 65536)) :: V.int IntKind.u8 (IntKind.wrap IntKind.u8 (Int.fdiv (4 + sumC ls) 256)) :: V.int IntKind.u8 (IntKind.wrap IntKind.u8 (4 + sumC ls)) :: V.int IntKind.u8 66 :: V.int IntKind.u8 69 :: V.int IntKind.u8 65 :: V.int IntKind.u8 77 :: mkRows ls →
                                    ∀ (x14 : Bool),
                                      x14 = (0 == 0) →
                                        (x14 = true →
                                            List.length rows12 = List.length rows12 ∧
                                              BLs rows12 ∧
                                                ∀ (l17 : List V) (e18 : Int),
                                                  parseS rows12 = (l17, e18) →
                                                    ∀ (x20 : Bool),
                                                      x20 = (e18 != 0) →
                                                        (x20 = true → r = V.bool false) ∧
                                                          (x20 = false →
                                                            (CLs l17 ∧ CLs ls) ∧
                                                              ∀ (x24 : Bool),
                                                                x24 = !decJ (l17 = ls) →
                                                                  (x24 = true → r = V.bool false) ∧
                                                                    (x24 = false →
                                                                      (BLs vs ∧ List.length vs ≤ 1000000) ∧
                                                                        BLs vs ∧
                                                                          ∀ (l28 : List V) (e29 : Int),
                                                                            parseS vs = (l28, e29) →
                                                                              ∀ (x31 : Bool),
                                                                                x31 = (e29 == 0) →
                                                                                  (x31 = true →
                                                                                      FitC l28 ∧
                                                                                        (mkE l28 = 0 →
                                                                                            ∀ (rows35 : List V),
                                                                                              rows35 =
                                                                                                  V.int IntKind.u8 70 ::
                                                                                                    V.int IntKind.u8 79 ::
                                                                                                      V.int IntKind.u8 82 ::
                                                                                                        V.int IntKind.u8 49 ::
                                                                                                          V.int IntKind.u8 (IntKind.wrap IntKind.u8 (Int.fdiv (4 + sumC l28) 16777216)) ::
                                                                                                            V.int IntKind.u8 (IntKind.wrap IntKind.u8 (Int.fdiv (4 + sumC l28) 65536)) ::
                                                                                                              V.int IntKind.u8 (IntKind.wrap IntKind.u8 (Int.fdiv (4 + sumC l28) 256)) :: V.int IntKind.u8 (IntKind.wrap IntKind.u8 (4 + sumC l28)) :: V.int IntKind.u8 66 :: V.int IntKind.u8 69 :: V.int IntKind.u8 65 :: V.int IntKind.u8 77 :: mkRows l28 →
                                                                                                ∀ (x37 : Bool),
                                                                                                  x37 = (0 != 0) →
                                                                                                    (x37 = true → r = V.bool false) ∧
                                                                                                      (x37 = false →
                                                                                                        (some IntKind.u8 = some IntKind.u8 ∧ some 1 = some 1 ∧ true = true ∧ List.length rows35 = List.length rows35 ∧ ∀ (v41 : V), List.Mem v41 rows35 → isByte v41) ∧
                                                                                                          (True →
                                                                                                            ∀ (x44 : List UInt8),
                                                                                                              x44 = List.map byteV rows35 →
                                                                                                                (some IntKind.u8 = some IntKind.u8 ∧ some 1 = some 1 ∧ true = true ∧ True ∧ V.list false vs ≠ V.junk ∧ ∀ (v46 : V), List.Mem v46 vs → isByte v46) ∧
                                                                                                                  (True → ∀ (x49 : List UInt8), x49 = List.map byteV vs → ∀ (x51 : Bool), x51 = (x44 != x49) → (x51 = true → r = V.bool false) ∧ (x51 = false → r = V.bool true))))) ∧
                                                                                          ∀ (e55 : Int),
                                                                                            e55 = mkE l28 →
                                                                                              e55 ≠ 0 →
                                                                                                ∀ (x58 : Bool),
                                                                                                  x58 = (e55 != 0) →
                                                                                                    (x58 = true → r = V.bool false) ∧
                                                                                                      (x58 = false →
                                                                                                        (some IntKind.u8 = some IntKind.u8 ∧ some 1 = some 1 ∧ true = true ∧ True ∧ V.nils ≠ V.junk ∧ ∀ (v62 : V), List.Mem v62 [] → isByte v62) ∧
                                                                                                          (True →
                                                                                                            ∀ (x65 : List UInt8),
                                                                                                              x65 = [] →
                                                                                                                (some IntKind.u8 = some IntKind.u8 ∧ some 1 = some 1 ∧ true = true ∧ True ∧ V.list false vs ≠ V.junk ∧ ∀ (v67 : V), List.Mem v67 vs → isByte v67) ∧
                                                                                                                  (True → ∀ (x70 : List UInt8), x70 = List.map byteV vs → ∀ (x72 : Bool), x72 = (x65 != x70) → (x72 = true → r = V.bool false) ∧ (x72 = false → r = V.bool true))))) ∧
                                                                                    (x31 = false → r = V.bool true)))) ∧
                                          (x14 = false →
                                            (BLs vs ∧ List.length vs ≤ 1000000) ∧
                                              BLs vs ∧
                                                ∀ (l78 : List V) (e79 : Int),
                                                  parseS vs = (l78, e79) →
                                                    ∀ (x81 : Bool),
                                                      x81 = (e79 == 0) →
                                                        (x81 = true →
                                                            FitC l78 ∧
                                                              (mkE l78 = 0 →
                                                                  ∀ (rows85 : List V),
                                                                    rows85 =
                                                                        V.int IntKind.u8 70 ::
                                                                          V.int IntKind.u8 79 ::
                                                                            V.int IntKind.u8 82 ::
                                                                              V.int IntKind.u8 49 ::
                                                                                V.int IntKind.u8 (IntKind.wrap IntKind.u8 (Int.fdiv (4 + sumC l78) 16777216)) ::
                                                                                  V.int IntKind.u8 (IntKind.wrap IntKind.u8 (Int.fdiv (4 + sumC l78) 65536)) :: V.int IntKind.u8 (IntKind.wrap IntKind.u8 (Int.fdiv (4 + sumC l78) 256)) :: V.int IntKind.u8 (IntKind.wrap IntKind.u8 (4 + sumC l78)) :: V.int IntKind.u8 66 :: V.int IntKind.u8 69 :: V.int IntKind.u8 65 :: V.int IntKind.u8 77 :: mkRows l78 →
                                                                      ∀ (x87 : Bool),
                                                                        x87 = (0 != 0) →
                                                                          (x87 = true → r = V.bool false) ∧
                                                                            (x87 = false →
                                                                              (some IntKind.u8 = some IntKind.u8 ∧ some 1 = some 1 ∧ true = true ∧ List.length rows85 = List.length rows85 ∧ ∀ (v91 : V), List.Mem v91 rows85 → isByte v91) ∧
                                                                                (True →
                                                                                  ∀ (x94 : List UInt8),
                                                                                    x94 = List.map byteV rows85 →
                                                                                      (some IntKind.u8 = some IntKind.u8 ∧ some 1 = some 1 ∧ true = true ∧ True ∧ V.list false vs ≠ V.junk ∧ ∀ (v96 : V), List.Mem v96 vs → isByte v96) ∧ (True → ∀ (x99 : List UInt8), x99 = List.map byteV vs → ∀ (x101 : Bool), x101 = (x94 != x99) → (x101 = true → r = V.bool false) ∧ (x101 = false → r = V.bool true))))) ∧
                                                                ∀ (e105 : Int),
                                                                  e105 = mkE l78 →
                                                                    e105 ≠ 0 →
                                                                      ∀ (x108 : Bool),
                                                                        x108 = (e105 != 0) →
                                                                          (x108 = true → r = V.bool false) ∧
                                                                            (x108 = false →
                                                                              (some IntKind.u8 = some IntKind.u8 ∧ some 1 = some 1 ∧ true = true ∧ True ∧ V.nils ≠ V.junk ∧ ∀ (v112 : V), List.Mem v112 [] → isByte v112) ∧
                                                                                (True →
                                                                                  ∀ (x115 : List UInt8),
                                                                                    x115 = [] →
                                                                                      (some IntKind.u8 = some IntKind.u8 ∧ some 1 = some 1 ∧ true = true ∧ True ∧ V.list false vs ≠ V.junk ∧ ∀ (v117 : V), List.Mem v117 vs → isByte v117) ∧
                                                                                        (True → ∀ (x120 : List UInt8), x120 = List.map byteV vs → ∀ (x122 : Bool), x122 = (x115 != x120) → (x122 = true → r = V.bool false) ∧ (x122 = false → r = V.bool true))))) ∧
                                                          (x81 = false → r = V.bool true))) ∧
                              ∀ (e127 : Int),
                                e127 = mkE ls →
                                  e127 ≠ 0 →
                                    ∀ (x130 : Bool),
                                      x130 = (e127 == 0) →
                                        (x130 = true →
                                            BLs [] ∧
                                              ∀ (l133 : List V) (e134 : Int),
                                                ([], 3) = (l133, e134) →
                                                  ∀ (x136 : Bool),
                                                    x136 = (e134 != 0) →
                                                      (x136 = true → r = V.bool false) ∧
                                                        (x136 = false →
                                                          (CLs l133 ∧ CLs ls) ∧
                                                            ∀ (x140 : Bool),
                                                              x140 = !decJ (l133 = ls) →
                                                                (x140 = true → r = V.bool false) ∧
                                                                  (x140 = false →
                                                                    (BLs vs ∧ List.length vs ≤ 1000000) ∧
                                                                      BLs vs ∧
                                                                        ∀ (l144 : List V) (e145 : Int),
                                                                          parseS vs = (l144, e145) →
                                                                            ∀ (x147 : Bool),
                                                                              x147 = (e145 == 0) →
                                                                                (x147 = true →
                                                                                    FitC l144 ∧
                                                                                      (mkE l144 = 0 →
                                                                                          ∀ (rows151 : List V),
                                                                                            rows151 =
                                                                                                V.int IntKind.u8 70 ::
                                                                                                  V.int IntKind.u8 79 ::
                                                                                                    V.int IntKind.u8 82 ::
                                                                                                      V.int IntKind.u8 49 ::
                                                                                                        V.int IntKind.u8 (IntKind.wrap IntKind.u8 (Int.fdiv (4 + sumC l144) 16777216)) ::
                                                                                                          V.int IntKind.u8 (IntKind.wrap IntKind.u8 (Int.fdiv (4 + sumC l144) 65536)) ::
                                                                                                            V.int IntKind.u8 (IntKind.wrap IntKind.u8 (Int.fdiv (4 + sumC l144) 256)) :: V.int IntKind.u8 (IntKind.wrap IntKind.u8 (4 + sumC l144)) :: V.int IntKind.u8 66 :: V.int IntKind.u8 69 :: V.int IntKind.u8 65 :: V.int IntKind.u8 77 :: mkRows l144 →
                                                                                              ∀ (x153 : Bool),
                                                                                                x153 = (0 != 0) →
                                                                                                  (x153 = true → r = V.bool false) ∧
                                                                                                    (x153 = false →
                                                                                                      (some IntKind.u8 = some IntKind.u8 ∧ some 1 = some 1 ∧ true = true ∧ List.length rows151 = List.length rows151 ∧ ∀ (v157 : V), List.Mem v157 rows151 → isByte v157) ∧
                                                                                                        (True →
                                                                                                          ∀ (x160 : List UInt8),
                                                                                                            x160 = List.map byteV rows151 →
                                                                                                              (some IntKind.u8 = some IntKind.u8 ∧ some 1 = some 1 ∧ true = true ∧ True ∧ V.list false vs ≠ V.junk ∧ ∀ (v162 : V), List.Mem v162 vs → isByte v162) ∧
                                                                                                                (True → ∀ (x165 : List UInt8), x165 = List.map byteV vs → ∀ (x167 : Bool), x167 = (x160 != x165) → (x167 = true → r = V.bool false) ∧ (x167 = false → r = V.bool true))))) ∧
                                                                                        ∀ (e171 : Int),
                                                                                          e171 = mkE l144 →
                                                                                            e171 ≠ 0 →
                                                                                              ∀ (x174 : Bool),
                                                                                                x174 = (e171 != 0) →
                                                                                                  (x174 = true → r = V.bool false) ∧
                                                                                                    (x174 = false →
                                                                                                      (some IntKind.u8 = some IntKind.u8 ∧ some 1 = some 1 ∧ true = true ∧ True ∧ V.nils ≠ V.junk ∧ ∀ (v178 : V), List.Mem v178 [] → isByte v178) ∧
                                                                                                        (True →
                                                                                                          ∀ (x181 : List UInt8),
                                                                                                            x181 = [] →
                                                                                                              (some IntKind.u8 = some IntKind.u8 ∧ some 1 = some 1 ∧ true = true ∧ True ∧ V.list false vs ≠ V.junk ∧ ∀ (v183 : V), List.Mem v183 vs → isByte v183) ∧
                                                                                                                (True → ∀ (x186 : List UInt8), x186 = List.map byteV vs → ∀ (x188 : Bool), x188 = (x181 != x186) → (x188 = true → r = V.bool false) ∧ (x188 = false → r = V.bool true))))) ∧
                                                                                  (x147 = false → r = V.bool true)))) ∧
                                          (x130 = false →
                                            (BLs vs ∧ List.length vs ≤ 1000000) ∧
                                              BLs vs ∧
                                                ∀ (l194 : List V) (e195 : Int),
                                                  parseS vs = (l194, e195) →
                                                    ∀ (x197 : Bool),
                                                      x197 = (e195 == 0) →
                                                        (x197 = true →
                                                            FitC l194 ∧
                                                              (mkE l194 = 0 →
                                                                  ∀ (rows201 : List V),
                                                                    rows201 =
                                                                        V.int IntKind.u8 70 ::
                                                                          V.int IntKind.u8 79 ::
                                                                            V.int IntKind.u8 82 ::
                                                                              V.int IntKind.u8 49 ::
                                                                                V.int IntKind.u8 (IntKind.wrap IntKind.u8 (Int.fdiv (4 + sumC l194) 16777216)) ::
                                                                                  V.int IntKind.u8 (IntKind.wrap IntKind.u8 (Int.fdiv (4 + sumC l194) 65536)) ::
                                                                                    V.int IntKind.u8 (IntKind.wrap IntKind.u8 (Int.fdiv (4 + sumC l194) 256)) :: V.int IntKind.u8 (IntKind.wrap IntKind.u8 (4 + sumC l194)) :: V.int IntKind.u8 66 :: V.int IntKind.u8 69 :: V.int IntKind.u8 65 :: V.int IntKind.u8 77 :: mkRows l194 →
                                                                      ∀ (x203 : Bool),
                                                                        x203 = (0 != 0) →
                                                                          (x203 = true → r = V.bool false) ∧
                                                                            (x203 = false →
                                                                              (some IntKind.u8 = some IntKind.u8 ∧ some 1 = some 1 ∧ true = true ∧ List.length rows201 = List.length rows201 ∧ ∀ (v207 : V), List.Mem v207 rows201 → isByte v207) ∧
                                                                                (True →
                                                                                  ∀ (x210 : List UInt8),
                                                                                    x210 = List.map byteV rows201 →
                                                                                      (some IntKind.u8 = some IntKind.u8 ∧ some 1 = some 1 ∧ true = true ∧ True ∧ V.list false vs ≠ V.junk ∧ ∀ (v212 : V), List.Mem v212 vs → isByte v212) ∧
                                                                                        (True → ∀ (x215 : List UInt8), x215 = List.map byteV vs → ∀ (x217 : Bool), x217 = (x210 != x215) → (x217 = true → r = V.bool false) ∧ (x217 = false → r = V.bool true))))) ∧
                                                                ∀ (e221 : Int),
                                                                  e221 = mkE l194 →
                                                                    e221 ≠ 0 →
                                                                      ∀ (x224 : Bool),
                                                                        x224 = (e221 != 0) →
                                                                          (x224 = true → r = V.bool false) ∧
                                                                            (x224 = false →
                                                                              (some IntKind.u8 = some IntKind.u8 ∧ some 1 = some 1 ∧ true = true ∧ True ∧ V.nils ≠ V.junk ∧ ∀ (v228 : V), List.Mem v228 [] → isByte v228) ∧
                                                                                (True →
                                                                                  ∀ (x231 : List UInt8),
                                                                                    x231 = [] →
                                                                                      (some IntKind.u8 = some IntKind.u8 ∧ some 1 = some 1 ∧ true = true ∧ True ∧ V.list false vs ≠ V.junk ∧ ∀ (v233 : V), List.Mem v233 vs → isByte v233) ∧
                                                                                        (True → ∀ (x236 : List UInt8), x236 = List.map byteV vs → ∀ (x238 : Bool), x238 = (x231 != x236) → (x238 = true → r = V.bool false) ∧ (x238 = false → r = V.bool true))))) ∧
                                                          (x197 = false → r = V.bool true))))) := by kernel_rfl
end GoL
