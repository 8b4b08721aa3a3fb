/- A part of the proof: a logic for programs of this kind, proved sound over the model; contracts of functions; plain laws. -/
import Derived.Test.YtjnagpmhkpkngaaBD
set_option linter.all false
open Go Go.Proofs
namespace GoL
set_option linter.unusedVariables false
set_option maxRecDepth 100000
theorem n30g (c t n : Int) (ls : List V) (r : V) : wC Try.prog sp30g 89 noHint (prsOf []) noLs 0 (bodyOf Try.f30) 1000 (initL [.int .u8 c, .agg [.int .i64 t, .int .i64 n, .list false ls]] 0) [] (finK Try.prog none Try.f30.results.toList r) = (
  ∀ (x0 : Bool),
    x0 = (c == 83) →
      (x0 = true →
          ∀ (x3 : Bool),
            x3 = (t != 7) →
              (x3 = true → r = V.bool false) ∧
                (x3 = false →
                  ∀ (x7 : Bool),
                    x7 = (n != 0) →
                      (x7 = true → r = V.bool false) ∧
                        (x7 = false →
                          List.length ls ≤ 9223372036854775807 →
                            ∀ (x12 : Int),
                              x12 = ↑(List.length ls) →
                                ∀ (x14 : Bool),
                                  x14 = decide (x12 > 40) →
                                    (x14 = true → r = V.bool false) ∧ (x14 = false → ∀ (x18 : Bool), x18 = (c == 80) → (x18 = true → (∀ (u21 : V), List.Mem u21 ls → Typed Try.prog 140737488351232 28 u21) ∧ r = V.bool (dec (inO ls))) ∧ (x18 = false → (∀ (u24 : V), List.Mem u24 ls → Typed Try.prog 140737488351232 28 u24) ∧ r = V.bool (dec (AllS (listP ls) (↑(List.length ls)) 1 0))))))) ∧
        (x0 = false →
          ∀ (x27 : Bool),
            x27 = (c == 80) →
              (x27 = true →
                  ∀ (x30 : Bool),
                    x30 = (t != 7) →
                      (x30 = true → r = V.bool false) ∧
                        (x30 = false →
                          ∀ (x34 : Bool),
                            x34 = (n != 0) →
                              (x34 = true → r = V.bool false) ∧
                                (x34 = false →
                                  List.length ls ≤ 9223372036854775807 →
                                    ∀ (x39 : Int),
                                      x39 = ↑(List.length ls) →
                                        ∀ (x41 : Bool),
                                          x41 = decide (x39 > 40) →
                                            (x41 = true → r = V.bool false) ∧ (x41 = false → ∀ (x45 : Bool), x45 = (c == 80) → (x45 = true → (∀ (u48 : V), List.Mem u48 ls → Typed Try.prog 140737488351232 28 u48) ∧ r = V.bool (dec (inO ls))) ∧ (x45 = false → (∀ (u51 : V), List.Mem u51 ls → Typed Try.prog 140737488351232 28 u51) ∧ r = V.bool (dec (AllS (listP ls) (↑(List.length ls)) 1 0))))))) ∧
                (x27 = false →
                  ∀ (x54 : Bool),
                    x54 = !plainB t n ls →
                      (x54 = true → r = V.bool false) ∧
                        (x54 = false →
                          ∀ (x58 : Bool),
                            x58 = (c == 117) →
                              (x58 = true → ∀ (x61 : Bool), x61 = (t == 0) → r = V.bool x61) ∧
                                (x58 = false →
                                  ∀ (x64 : Bool),
                                    x64 = (c == 97) →
                                      (x64 = true → ∀ (x67 : Bool), x67 = (t == 2) → (x67 = true → ∀ (x70 : Bool), x70 = decide (n > 0) → r = V.bool x70) ∧ (x67 = false → r = V.bool false)) ∧
                                        (x64 = false →
                                          ∀ (x74 : Bool),
                                            x74 = (c == 115) →
                                              (x74 = true → r = V.bool (srcB t n)) ∧
                                                (x74 = false →
                                                  ∀ (x78 : Bool),
                                                    x78 = (c == 100) →
                                                      (x78 = true → r = V.bool (regB t n)) ∧
                                                        (x78 = false →
                                                          ∀ (x82 : Bool),
                                                            x82 = (c == 120) →
                                                              (x82 = true → ∀ (x85 : Bool), x85 = (t == 3) → (x85 = true → r = V.bool (regB t n)) ∧ (x85 = false → r = V.bool false)) ∧
                                                                (x82 = false →
                                                                  ∀ (x90 : Bool),
                                                                    x90 = (c == 121) →
                                                                      (x90 = true → ∀ (x93 : Bool), x93 = (t == 4) → (x93 = true → r = V.bool (regB t n)) ∧ (x93 = false → r = V.bool false)) ∧
                                                                        (x90 = false → ∀ (x98 : Bool), x98 = (c == 108) → (x98 = true → ∀ (x101 : Bool), x101 = (t == 5) → (x101 = true → ∀ (x104 : Bool), x104 = decide (n > 0) → r = V.bool x104) ∧ (x101 = false → r = V.bool false)) ∧ (x98 = false → ∀ (x108 : Bool), x108 = (t == 5) → r = V.bool x108))))))))))) := by kernel_rfl
theorem nl19g (sg : List UInt8) (xs : List V) (n i : Int) (Nx Ex Rt : List V → List Blk → Prop) : wC Try.prog sp19g 40 noHint (prsOf [(7, [[], [], [0, 1], [], [2, 0, 1, 3], [4, 2, 0, 1, 3]])]) noLs 0 (lcode Try.f19 0).2 1000 (List.zip [3, 26, 27, 28] [.str sg, .list false xs, .int .i64 n, .int .i64 i]) (List.zip [] []) (endK ends19g Nx Ex Rt) = (
  ∀ (x0 : Bool),
    x0 = decide (i < n) →
      (x0 = true →
          0 ≤ i ∧
            i < ↑(List.length xs) ∧
              ∃ n3 n4 l5,
                getV xs i = V.agg [V.int IntKind.i64 n3, V.int IntKind.i64 n4, V.list false l5] ∧
                  0 ≤ i ∧
                    i < ↑(List.length sg) ∧
                      ∀ (x6 : Int),
                        x6 = ↑(UInt8.toNat (List.getD sg (Int.toNat i) 0)) → (∀ (u8 : V), List.Mem u8 l5 → Typed Try.prog 140737488351232 28 u8) ∧ ∀ (x10 : Bool), x10 = !letO x6 n3 n4 l5 → (x10 = true → Rt [V.gd true (V.bool false)] []) ∧ (x10 = false → ∀ (x14 : Int), x14 = IntKind.wrap IntKind.i64 (i + 1) → Nx [V.str sg, V.list false xs, V.int IntKind.i64 n, V.int IntKind.i64 x14] [])) ∧
        (x0 = false → Ex [] [])) := by kernel_rfl
theorem n19g (op : Int) (xs : List V) (r : V) : wC Try.prog sp19g 40 noHint (prsOf [(7, [[], [], [0, 1], [], [2, 0, 1, 3], [4, 2, 0, 1, 3]])]) ls19g 0 (bodyOf Try.f19) 1000 (initL [.agg [.int .i64 op, .list false xs]] 0) [] (finK Try.prog none Try.f19.results.toList r) = (
  ∀ (x0 : Bool),
    x0 = decide (op < 1) →
      (x0 = true → r = V.bool false) ∧
        (x0 = false →
          ∀ (x4 : Bool),
            x4 = decide (op > 51) →
              (x4 = true → r = V.bool false) ∧
                (x4 = false →
                  List.length xs ≤ 9223372036854775807 →
                    ∀ (x9 : Int),
                      x9 = ↑(List.length xs) →
                        List.length (sigS op) ≤ 9223372036854775807 →
                          ∀ (x12 : Int),
                            x12 = ↑(List.length (sigS op)) →
                              ∀ (x14 : Bool),
                                x14 = (x9 != x12) →
                                  (x14 = true → r = V.bool false) ∧
                                    (x14 = false →
                                      List.length xs ≤ 9223372036854775807 →
                                        ∀ (x19 : Int),
                                          x19 = ↑(List.length xs) →
                                            x19 = ↑(List.length xs) ∧ List.length xs ≤ 9223372036854775807 ∧ List.length xs = List.length (sigS op) ∧ (∀ (u21 : V), List.Mem u21 xs → Typed Try.prog 140737488351232 28 u21) ∧ Int.ofNat 0 = 0 ∧ (AllS (okG (sigS op) xs) (↑(List.length xs)) 1 0 → r = V.bool true) ∧ (¬AllS (okG (sigS op) xs) (↑(List.length xs)) 1 0 → r = V.bool false))))) := by kernel_rfl
theorem nl24_0 (op : Int) (sg : List UInt8) (xs : List V) (i : Int) (Nx Ex Rt : List V → List Blk → Prop) : wC Try.prog sp24 49 noHint (prsOf [(7, [[], [0], [], [1, 0, 2], [3, 1, 0, 2], [4, 3, 1, 0, 2], [5, 4, 3, 1, 0, 2], [6, 5, 4, 3, 1, 0, 2], [7, 6, 5, 4, 3, 1, 0, 2], [7, 6, 5, 4, 3, 1, 0, 2], [8, 7, 6, 5, 4, 3, 1, 0, 2, 9], [7, 6, 5, 4, 3, 1, 0, 2], [11, 7, 6, 5, 4, 3, 1, 0, 2], [7, 6, 5, 4, 3, 1, 0, 2], [12, 11, 7, 6, 5, 4, 3, 1, 0, 2, 13], [14, 12, 11, 7, 6, 5, 4, 3, 1, 0, 2, 13], [10, 8, 7, 6, 5, 4, 3, 1, 0, 2, 9, 15, 14, 12, 11, 13], [16, 10, 8, 7, 6, 5, 4, 3, 1, 0, 2, 9, 15, 14, 12, 11, 13], [7, 6, 5, 4, 3, 1, 0, 2, 17, 16, 10, 8, 9, 15, 14, 12, 11, 13]])]) noLs 0 (lcode Try.f24 0).2 1001 (List.zip [1, 3, 4] [.ptr 1000 0 [], .str sg, .int .i64 i]) (List.zip [1000] [⟨none, false, .agg [.int .i64 op, .list false xs]⟩]) (endK ends24_0 Nx Ex Rt) = (
  List.length sg ≤ 9223372036854775807 →
    ∀ (x1 : Int),
      x1 = ↑(List.length sg) →
        ∀ (x3 : Bool),
          x3 = decide (i < x1) →
            (x3 = true →
                0 ≤ i ∧
                  i < ↑(List.length xs) ∧
                    ∃ n6 n7 l8,
                      getV xs i = V.agg [V.int IntKind.i64 n6, V.int IntKind.i64 n7, V.list false l8] ∧
                        (∀ (u9 : V), List.Mem u9 l8 → Typed Try.prog 140737488351232 28 u9) ∧
                          ∀ (x11 : Bool),
                            x11 = !ck32 n6 n7 l8 →
                              (x11 = true → Rt [V.gd true (V.bool false)] []) ∧
                                (x11 = false →
                                  0 ≤ i ∧
                                    i < ↑(List.length sg) ∧
                                      ∀ (x15 : Int),
                                        x15 = ↑(UInt8.toNat (List.getD sg (Int.toNat i) 0)) →
                                          0 ≤ i ∧
                                            i < ↑(List.length xs) ∧
                                              ∃ n17 n18 l19,
                                                getV xs i = V.agg [V.int IntKind.i64 n17, V.int IntKind.i64 n18, V.list false l19] ∧
                                                  (∀ (u20 : V), List.Mem u20 l19 → Typed Try.prog 140737488351232 28 u20) ∧
                                                    ∀ (x22 : Bool), x22 = !letB x15 n17 n18 l19 → (x22 = true → Rt [V.gd true (V.bool false)] []) ∧ (x22 = false → ∀ (x26 : Int), x26 = IntKind.wrap IntKind.i64 (i + 1) → Nx [V.ptr 1000 0 [], V.str sg, V.int IntKind.i64 x26] [{ arr := none, fz := false, t := V.agg [V.int IntKind.i64 op, V.list false xs] }]))) ∧
              (x3 = false → Ex [] [])) := by kernel_rfl
theorem n24 (op : Int) (xs : List V) (r : V) : wC Try.prog sp24 49 noHint (prsOf [(7, [[], [0], [], [1, 0, 2], [3, 1, 0, 2], [4, 3, 1, 0, 2], [5, 4, 3, 1, 0, 2], [6, 5, 4, 3, 1, 0, 2], [7, 6, 5, 4, 3, 1, 0, 2], [7, 6, 5, 4, 3, 1, 0, 2], [8, 7, 6, 5, 4, 3, 1, 0, 2, 9], [7, 6, 5, 4, 3, 1, 0, 2], [11, 7, 6, 5, 4, 3, 1, 0, 2], [7, 6, 5, 4, 3, 1, 0, 2], [12, 11, 7, 6, 5, 4, 3, 1, 0, 2, 13], [14, 12, 11, 7, 6, 5, 4, 3, 1, 0, 2, 13], [10, 8, 7, 6, 5, 4, 3, 1, 0, 2, 9, 15, 14, 12, 11, 13], [16, 10, 8, 7, 6, 5, 4, 3, 1, 0, 2, 9, 15, 14, 12, 11, 13], [7, 6, 5, 4, 3, 1, 0, 2, 17, 16, 10, 8, 9, 15, 14, 12, 11, 13]])]) ls24 0 (bodyOf Try.f24) 1000 (initL [.agg [.int .i64 op, .list false xs]] 0) [] (finK Try.prog none Try.f24.results.toList r) = (
  ∀ (x0 : Bool),
    x0 = decide (op < 1) →
      (x0 = true → r = V.bool false) ∧
        (x0 = false →
          ∀ (x4 : Bool),
            x4 = decide (op > 51) →
              (x4 = true → r = V.bool false) ∧
                (x4 = false →
                  List.length xs ≤ 9223372036854775807 →
                    ∀ (x9 : Int),
                      x9 = ↑(List.length xs) →
                        List.length (sig9 op) ≤ 9223372036854775807 →
                          ∀ (x12 : Int),
                            x12 = ↑(List.length (sig9 op)) →
                              ∀ (x14 : Bool),
                                x14 = (x9 != x12) → (x14 = true → r = V.bool false) ∧ (x14 = false → List.length xs = List.length (sig9 op) ∧ (∀ (u18 : V), List.Mem u18 xs → Typed Try.prog 140737488351232 28 u18) ∧ Int.ofNat 0 = 0 ∧ (AllS (okR (sig9 op) xs) (↑(List.length (sig9 op))) 1 0 → r = V.bool true) ∧ (¬AllS (okR (sig9 op) xs) (↑(List.length (sig9 op))) 1 0 → r = V.bool false))))) := by kernel_rfl
end GoL
