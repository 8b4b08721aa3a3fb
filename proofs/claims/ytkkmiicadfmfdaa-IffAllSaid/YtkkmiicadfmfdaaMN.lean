/- A part of the proof: a logic for programs of this kind, proved sound over the model; contracts of functions; plain laws. -/
import Derived.Test.YtkkmiicadfmfdaaMD
set_option linter.all false
open Go Go.Proofs
namespace GoL
set_option linter.unusedVariables false
set_option maxRecDepth 100000
theorem nl28s (s : List UInt8) (ls : List V) (n i : Int) (Nx Ex Rt : List V → List Blk → Prop) : wC Try.prog sp28_31 19 (hintOf [(4004, 1)]) (prsOf []) noLs 0 (lcode Try.f28 0).2 1000 (List.zip [0, 1, 7, 8] [.sl 0 ls.length, .fn 31 [.dptr (.str s)], .int .i64 n, .int .i64 i]) (List.zip [0] [⟨some 36, false, .agg ls⟩]) (endK ends28s Nx Ex Rt) = (
  ∀ (x0 : Bool),
    x0 = decide (i < n) →
      (x0 = true →
          List.length ls = List.length ls ∧
            0 ≤ i ∧
              i < ↑(List.length ls) ∧
                some 2 = some 2 ∧
                  ∃ s3 s4,
                    subQ (V.agg ls) [Int.toNat i] = some (V.agg [V.str s3, V.str s4]) ∧
                      List.length ls = List.length ls ∧
                        offQ (V.agg ls) [Int.toNat i] = Int.toNat i * 2 ∧
                          ((s3 == s) = true → NoIds ls ∧ Rt [V.int IntKind.i64 i] [{ arr := some 36, fz := false, t := V.agg ls }]) ∧ ((s3 == s) = false → ∀ (x7 : Int), x7 = IntKind.wrap IntKind.i64 (i + 1) → NoIds ls ∧ Nx [V.sl 0 (List.length ls), V.fn 31 [V.dptr (V.str s)], V.int IntKind.i64 n, V.int IntKind.i64 x7] [{ arr := some 36, fz := false, t := V.agg ls }])) ∧
        (x0 = false → NoIds ls ∧ Ex [] [{ arr := some 36, fz := false, t := V.agg ls }])) := by kernel_rfl
theorem n28s (s : List UInt8) (ls : List V) (r : V) (ks : List Blk) : wC Try.prog sp28_31 19 noHint (prsOf []) ls28s 0 (bodyOf Try.f28) 1000 (initL [.sl 0 ls.length, .fn 31 [.dptr (.str s)]] 0) [(0, ⟨some 36, false, .agg ls⟩)] (finH Try.prog none Try.f28.results.toList [0] fun v bs => r = v ∧ ks = bs) = (
  List.length ls = List.length ls ∧
    (List.length ls ≤ 9223372036854775807 →
      ∀ (x1 : Int), x1 = ↑(List.length ls) → NoIds ls ∧ List.length ls = List.length ls ∧ x1 = ↑(List.length ls) ∧ List.length ls ≤ 9223372036854775807 ∧ Int.ofNat 0 = 0 ∧ CLs ls ∧ (idxI s ls 0 = -1 → r = V.int IntKind.i64 (-1) ∧ ks = [{ arr := some 36, fz := false, t := V.agg ls }]) ∧ (idxI s ls 0 ≠ -1 → r = V.int IntKind.i64 (idxI s ls 0) ∧ ks = [{ arr := some 36, fz := false, t := V.agg ls }]))) := by kernel_rfl
theorem n30s (s : List UInt8) (ls : List V) (r : V) (ks : List Blk) : wC Try.prog sp30s 9 noHint (prsOf []) noLs 0 (bodyOf Try.f30) 1000 (initL [.sl 0 ls.length, .fn 31 [.dptr (.str s)]] 0) [(0, ⟨some 36, false, .agg ls⟩)] (finH Try.prog none Try.f30.results.toList [0] fun v bs => r = v ∧ ks = bs) = (
  (List.length ls = List.length ls ∧ CLs ls) ∧ ∀ (x0 : Bool), x0 = decide (idxI s ls 0 ≥ 0) → r = V.bool x0 ∧ ks = [{ arr := some 36, fz := false, t := V.agg ls }]) := by kernel_rfl
theorem n20s (s : List UInt8) (ls : List V) (r : V) (ks : List Blk) : wC Try.prog sp20s 8 noHint (prsOf []) noLs 0 (bodyOf Try.f20) 1000 (initL [.sl 0 ls.length, .str s] 0) [(0, ⟨some 36, false, .agg ls⟩)] (finH Try.prog none Try.f20.results.toList [0] fun v bs => r = v ∧ ks = bs) = (
  (0 = 0 ∧
      ∀ (v0 : V),
        List.Mem v0 [V.ptr 1000 0 []] →
          (match v0 with
              | V.tup vs => false
              | V.gd g v => false
              | V.own e vs => false
              | V.nbox v => false
              | V.junk => false
              | x => true) =
              true ∧
            (match v0 with
              | V.agg vs => true
              | x => false) =
              false) ∧
    (True → (List.length ls = List.length ls ∧ CLs ls) ∧ r = V.bool (hasS ls s) ∧ ks = [{ arr := some 36, fz := false, t := V.agg ls }])) := by kernel_rfl
theorem nl11_0 (vs acc : List V) (Nx Ex Rt : List V → List Blk → Prop) : wC Try.prog sp11 112 noHint (prsOf [(12, [[], [0], [1, 0], [], [3], [4, 3], [2, 1, 0, 5, 4, 3], [5, 4, 3, 6, 2, 1, 0]]), (16, [[], [], [], [0, 1, 2], [], [], [], [], [7], [6, 8, 7], [], [], [11, 8, 7], [10, 12, 11, 8, 7], [4, 5, 9, 6, 8, 7, 13, 10, 12, 11], [3, 0, 1, 2, 12, 11, 8, 7], [14, 4, 5, 9, 6, 8, 7, 13, 10, 12, 11, 15, 3, 0, 1, 2]]), (17, [[], [0], [1, 0], [2, 1, 0], [3, 2, 1, 0], [4, 3, 2, 1, 0], [3, 2, 1, 0], [6, 3, 2, 1, 0], [7, 6, 3, 2, 1, 0], [8, 7, 6, 3, 2, 1, 0], [5, 4, 3, 2, 1, 0, 9, 8, 7, 6], [3, 2, 1, 0, 10, 5, 4, 9, 8, 7, 6], [11, 3, 2, 1, 0, 10, 5, 4, 9, 8, 7, 6]])]) noLs 1 (lcode Try.f11 0).2 1035 (List.zip [0, 4] [.list false vs, .sl 1034 acc.length]) (List.zip [1034] [⟨some 36, false, .agg acc⟩]) (endK ends11_0 Nx Ex Rt) = (
  List.length vs ≤ 9223372036854775807 →
    ∀ (x1 : Int),
      x1 = ↑(List.length vs) →
        ∀ (x3 : Bool),
          x3 = (x1 == 0) →
            (x3 = true → NoIds acc ∧ Ex [V.sl 1034 (List.length acc)] [{ arr := some 36, fz := false, t := V.agg acc }]) ∧
              (x3 = false →
                List.length vs ≤ 9223372036854775807 →
                  ∀ (x8 : Int),
                    x8 = ↑(List.length vs) →
                      ∀ (x10 : Bool),
                        x10 = decide (x8 < 8) →
                          (x10 = true → Rt [V.nils, V.int IntKind.i64 3] []) ∧
                            (x10 = false →
                              (True ∧ false = false ∧ True ∧ True ∧ True ∧ ((none : Option V) ≠ none → some (V.int IntKind.i64 4) ≠ none ∧ Int.ofNat 0 = Int.ofNat 4) ∧ 0 ≤ Int.ofNat 0 ∧ Int.ofNat 0 ≤ Int.ofNat 4 ∧ Int.ofNat 4 ≤ ↑(List.length vs) ∧ some 1 = some 1 ∧ ∀ (v15 : V), List.Mem v15 vs → V.sz v15 = 1) ∧
                                ∀ (x17 : List V),
                                  x17 = List.take (Int.toNat (Int.ofNat 4 - Int.ofNat 0)) vs →
                                    (some IntKind.u8 = some IntKind.u8 ∧ some 1 = some 1 ∧ true = true ∧ True ∧ V.list false x17 ≠ V.junk ∧ ∀ (v19 : V), List.Mem v19 x17 → isByte v19) ∧
                                      ∀ (x21 : List UInt8),
                                        x21 = List.map byteV x17 →
                                          (True ∧ false = false ∧ True ∧ True ∧ True ∧ ((none : Option V) ≠ none → (none : Option V) ≠ none ∧ Int.ofNat 0 = Int.ofNat 0) ∧ 0 ≤ Int.ofNat 4 ∧ Int.ofNat 4 ≤ Int.ofNat (List.length vs) ∧ Int.ofNat (List.length vs) ≤ ↑(List.length vs) ∧ some 1 = some 1 ∧ ∀ (v24 : V), List.Mem v24 vs → V.sz v24 = 1) ∧
                                            ∀ (x26 : List V),
                                              x26 = List.take (Int.toNat (Int.ofNat (List.length vs) - Int.ofNat 4)) (List.drop (Int.toNat (Int.ofNat 4)) vs) →
                                                (BLs x26 ∧ 4 ≤ List.length x26) ∧
                                                  ∀ (x28 : Int),
                                                    x28 = numS x26 →
                                                      (True ∧ false = false ∧ True ∧ True ∧ True ∧ ((none : Option V) ≠ none → (none : Option V) ≠ none ∧ Int.ofNat 0 = Int.ofNat 0) ∧ 0 ≤ Int.ofNat 8 ∧ Int.ofNat 8 ≤ Int.ofNat (List.length vs) ∧ Int.ofNat (List.length vs) ≤ ↑(List.length vs) ∧ some 1 = some 1 ∧ ∀ (v31 : V), List.Mem v31 vs → V.sz v31 = 1) ∧
                                                        (True →
                                                          ∀ (x34 : List V),
                                                            x34 = List.take (Int.toNat (Int.ofNat (List.length vs) - Int.ofNat 8)) (List.drop (Int.toNat (Int.ofNat 8)) vs) →
                                                              List.length x34 ≤ 9223372036854775807 →
                                                                ∀ (x37 : Int),
                                                                  x37 = ↑(List.length x34) →
                                                                    ∀ (x39 : Bool),
                                                                      x39 = decide (x28 > x37) →
                                                                        (x39 = true → Rt [V.nils, V.int IntKind.i64 3] []) ∧
                                                                          (x39 = false →
                                                                            (0 ≤ x28 ∧ x28 ≤ 4611686018427387904) ∧
                                                                              ∀ (x43 : Int),
                                                                                x43 = fillI x28 →
                                                                                  ∀ (x45 : Int),
                                                                                    x45 = IntKind.wrap IntKind.i64 (x28 + x43) →
                                                                                      List.length x34 ≤ 9223372036854775807 →
                                                                                        ∀ (x48 : Int),
                                                                                          x48 = ↑(List.length x34) →
                                                                                            ∀ (x50 : Bool),
                                                                                              x50 = decide (x45 > x48) →
                                                                                                (x50 = true → Rt [V.nils, V.int IntKind.i64 3] []) ∧
                                                                                                  (x50 = false →
                                                                                                    (True ∧ false = false ∧ True ∧ True ∧ True ∧ (some (V.int IntKind.i64 x28) ≠ none → some (V.int IntKind.i64 x28) ≠ none ∧ x28 = x28) ∧ 0 ≤ Int.ofNat 0 ∧ Int.ofNat 0 ≤ x28 ∧ x28 ≤ ↑(List.length x34) ∧ some 1 = some 1 ∧ ∀ (v55 : V), List.Mem v55 x34 → V.sz v55 = 1) ∧
                                                                                                      ∀ (x57 : List V),
                                                                                                        x57 = List.take (Int.toNat (x28 - Int.ofNat 0)) x34 →
                                                                                                          (0 ≤ x28 ∧ x28 ≤ 4611686018427387904) ∧
                                                                                                            ∀ (x59 : Int),
                                                                                                              x59 = fillI x28 →
                                                                                                                ∀ (x61 : Int),
                                                                                                                  x61 = IntKind.wrap IntKind.i64 (x28 + x59) →
                                                                                                                    (0 ≤ x28 ∧ x28 ≤ 4611686018427387904) ∧
                                                                                                                      ∀ (x63 : Int),
                                                                                                                        x63 = fillI x28 →
                                                                                                                          ∀ (x65 : Int),
                                                                                                                            x65 = IntKind.wrap IntKind.i64 (x28 + x63) →
                                                                                                                              (True ∧ false = false ∧ True ∧ True ∧ True ∧ (some (V.int IntKind.i64 x65) ≠ none → some (V.int IntKind.i64 x61) ≠ none ∧ x65 = x61) ∧ 0 ≤ x28 ∧ x28 ≤ x61 ∧ x61 ≤ ↑(List.length x34) ∧ some 1 = some 1 ∧ ∀ (v68 : V), List.Mem v68 x34 → V.sz v68 = 1) ∧
                                                                                                                                ∀ (x70 : List V),
                                                                                                                                  x70 = List.take (Int.toNat (x61 - x28)) (List.drop (Int.toNat x28) x34) →
                                                                                                                                    ∀ (x72 : Bool),
                                                                                                                                      x72 = !namedS x21 →
                                                                                                                                        (x72 = true → Rt [V.nils, V.int IntKind.i64 4] []) ∧
                                                                                                                                          (x72 = false →
                                                                                                                                            (some IntKind.u8 = some IntKind.u8 ∧ some 1 = some 1 ∧ true = true ∧ True ∧ V.list true x70 ≠ V.junk ∧ ∀ (v76 : V), List.Mem v76 x70 → isByte v76) ∧
                                                                                                                                              ∀ (x78 : List UInt8),
                                                                                                                                                x78 = List.map byteV x70 →
                                                                                                                                                  ∀ (x80 : Int),
                                                                                                                                                    x80 = ↑(List.length x70) →
                                                                                                                                                      (0 ≤ x80 ∧ x80 ≤ x80 ∧ x80 ≤ ↑9223372036854775807 ∧ ↑1 * x80 ≤ 281474976710656 ∧ true = true) ∧
                                                                                                                                                        ∀ (x82 : List V),
                                                                                                                                                          x82 = List.replicate (Int.toNat x80) (V.int IntKind.u8 0) →
                                                                                                                                                            (some IntKind.u8 = some IntKind.u8 ∧ some 1 = some 1 ∧ true = true ∧ True ∧ V.list false x82 ≠ V.junk ∧ ∀ (v84 : V), List.Mem v84 x82 → isByte v84) ∧
                                                                                                                                                              ∀ (x86 : List UInt8),
                                                                                                                                                                x86 = List.map byteV x82 →
                                                                                                                                                                  ∀ (x88 : Bool),
                                                                                                                                                                    x88 = (x78 != x86) →
                                                                                                                                                                      (x88 = true → Rt [V.nils, V.int IntKind.i64 4] []) ∧
                                                                                                                                                                        (x88 = false →
                                                                                                                                                                          (List.length acc = List.length acc ∧ CLs acc) ∧
                                                                                                                                                                            (hasS acc x21 = true → Rt [V.nils, V.int IntKind.i64 6] []) ∧
                                                                                                                                                                              (hasS acc x21 = false →
                                                                                                                                                                                (some IntKind.u8 = some IntKind.u8 ∧ some 1 = some 1 ∧ true = true ∧ True ∧ V.list true x57 ≠ V.junk ∧ ∀ (v94 : V), List.Mem v94 x57 → isByte v94) ∧
                                                                                                                                                                                  (True →
                                                                                                                                                                                    ∀ (x97 : List UInt8),
                                                                                                                                                                                      x97 = List.map byteV x57 →
                                                                                                                                                                                        (List.length acc = List.length acc ∧
                                                                                                                                                                                            36 = 36 ∧
                                                                                                                                                                                              ((true || false) = true ∧ True) ∧
                                                                                                                                                                                                (∀ (v99 : V), List.Mem v99 [V.agg [V.str x21, V.str x97]] → V.sz v99 = 2) ∧
                                                                                                                                                                                                  some 2 = some 2 ∧
                                                                                                                                                                                                    true = true ∧
                                                                                                                                                                                                      ∃ b101,
                                                                                                                                                                                                        some 32 = some b101 ∧ (List.length acc + List.length [V.agg [V.str x21, V.str x97]]) * b101 ≤ 140737488355328 ∧ List.length acc + List.length [V.agg [V.str x21, V.str x97]] ≤ 9223372036854775807) ∧
                                                                                                                                                                                          (True →
                                                                                                                                                                                            (0 ≤ x28 ∧ x28 ≤ 4611686018427387904) ∧
                                                                                                                                                                                              ∀ (x103 : Int),
                                                                                                                                                                                                x103 = fillI x28 →
                                                                                                                                                                                                  ∀ (x105 : Int),
                                                                                                                                                                                                    x105 = IntKind.wrap IntKind.i64 (x28 + x103) →
                                                                                                                                                                                                      (True ∧
                                                                                                                                                                                                          false = false ∧
                                                                                                                                                                                                            True ∧
                                                                                                                                                                                                              True ∧
                                                                                                                                                                                                                True ∧
                                                                                                                                                                                                                  ((none : Option V) ≠ none → (none : Option V) ≠ none ∧ Int.ofNat 0 = Int.ofNat 0) ∧
                                                                                                                                                                                                                    0 ≤ x105 ∧ x105 ≤ Int.ofNat (List.length x34) ∧ Int.ofNat (List.length x34) ≤ ↑(List.length x34) ∧ some 1 = some 1 ∧ ∀ (v108 : V), List.Mem v108 x34 → V.sz v108 = 1) ∧
                                                                                                                                                                                                        (True →
                                                                                                                                                                                                          ∀ (x111 : List V),
                                                                                                                                                                                                            x111 = List.take (Int.toNat (Int.ofNat (List.length x34) - x105)) (List.drop (Int.toNat x105) x34) →
                                                                                                                                                                                                              NoIds (acc ++ [V.agg [V.str x21, V.str x97]]) ∧
                                                                                                                                                                                                                Nx [V.list false x111, V.sl 1034 (List.length acc + List.length [V.agg [V.str x21, V.str x97]])] [{ arr := some 36, fz := false, t := V.agg (acc ++ [V.agg [V.str x21, V.str x97]]) }])))))))))))) := by kernel_rfl
theorem n11 (vs : List V) (r : V) : wC Try.prog sp11 112 noHint (prsOf [(12, [[], [0], [1, 0], [], [3], [4, 3], [2, 1, 0, 5, 4, 3], [5, 4, 3, 6, 2, 1, 0]]), (16, [[], [], [], [0, 1, 2], [], [], [], [], [7], [6, 8, 7], [], [], [11, 8, 7], [10, 12, 11, 8, 7], [4, 5, 9, 6, 8, 7, 13, 10, 12, 11], [3, 0, 1, 2, 12, 11, 8, 7], [14, 4, 5, 9, 6, 8, 7, 13, 10, 12, 11, 15, 3, 0, 1, 2]]), (17, [[], [0], [1, 0], [2, 1, 0], [3, 2, 1, 0], [4, 3, 2, 1, 0], [3, 2, 1, 0], [6, 3, 2, 1, 0], [7, 6, 3, 2, 1, 0], [8, 7, 6, 3, 2, 1, 0], [5, 4, 3, 2, 1, 0, 9, 8, 7, 6], [3, 2, 1, 0, 10, 5, 4, 9, 8, 7, 6], [11, 3, 2, 1, 0, 10, 5, 4, 9, 8, 7, 6]])]) ls11 0 (bodyOf Try.f11) 1000 (initL [.list false vs] 0) [] (finK Try.prog none Try.f11.results.toList r) = (
  List.length vs ≤ 9223372036854775807 →
    ∀ (x1 : Int),
      x1 = ↑(List.length vs) →
        ∀ (x3 : Bool),
          x3 = decide (x1 > 65536) →
            (x3 = true → r = V.tup [V.list false [], V.int IntKind.i64 2]) ∧
              (x3 = false →
                List.length vs ≤ 9223372036854775807 →
                  ∀ (x8 : Int),
                    x8 = ↑(List.length vs) →
                      ∀ (x10 : Bool),
                        x10 = decide (x8 < 12) →
                          (x10 = true → r = V.tup [V.list false [], V.int IntKind.i64 3]) ∧
                            (x10 = false →
                              (True ∧ false = false ∧ True ∧ True ∧ True ∧ ((none : Option V) ≠ none → some (V.int IntKind.i64 4) ≠ none ∧ Int.ofNat 0 = Int.ofNat 4) ∧ 0 ≤ Int.ofNat 0 ∧ Int.ofNat 0 ≤ Int.ofNat 4 ∧ Int.ofNat 4 ≤ ↑(List.length vs) ∧ some 1 = some 1 ∧ ∀ (v15 : V), List.Mem v15 vs → V.sz v15 = 1) ∧
                                (True →
                                  ∀ (x18 : List V),
                                    x18 = List.take (Int.toNat (Int.ofNat 4 - Int.ofNat 0)) vs →
                                      (some IntKind.u8 = some IntKind.u8 ∧ some 1 = some 1 ∧ true = true ∧ True ∧ V.list false x18 ≠ V.junk ∧ ∀ (v20 : V), List.Mem v20 x18 → isByte v20) ∧
                                        (True →
                                          ∀ (x23 : List UInt8),
                                            x23 = List.map byteV x18 →
                                              ∀ (x25 : Bool),
                                                x25 = (x23 != [70, 79, 82, 49]) →
                                                  (x25 = true → r = V.tup [V.list false [], V.int IntKind.i64 5]) ∧
                                                    (x25 = false →
                                                      (True ∧ false = false ∧ True ∧ True ∧ True ∧ ((none : Option V) ≠ none → some (V.int IntKind.i64 12) ≠ none ∧ Int.ofNat 0 = Int.ofNat 12) ∧ 0 ≤ Int.ofNat 8 ∧ Int.ofNat 8 ≤ Int.ofNat 12 ∧ Int.ofNat 12 ≤ ↑(List.length vs) ∧ some 1 = some 1 ∧ ∀ (v30 : V), List.Mem v30 vs → V.sz v30 = 1) ∧
                                                        (True →
                                                          ∀ (x33 : List V),
                                                            x33 = List.take (Int.toNat (Int.ofNat 12 - Int.ofNat 8)) (List.drop (Int.toNat (Int.ofNat 8)) vs) →
                                                              (some IntKind.u8 = some IntKind.u8 ∧ some 1 = some 1 ∧ true = true ∧ True ∧ V.list false x33 ≠ V.junk ∧ ∀ (v35 : V), List.Mem v35 x33 → isByte v35) ∧
                                                                (True →
                                                                  ∀ (x38 : List UInt8),
                                                                    x38 = List.map byteV x33 →
                                                                      ∀ (x40 : Bool),
                                                                        x40 = (x38 != [66, 69, 65, 77]) →
                                                                          (x40 = true → r = V.tup [V.list false [], V.int IntKind.i64 5]) ∧
                                                                            (x40 = false →
                                                                              (True ∧ false = false ∧ True ∧ True ∧ True ∧ ((none : Option V) ≠ none → (none : Option V) ≠ none ∧ Int.ofNat 0 = Int.ofNat 0) ∧ 0 ≤ Int.ofNat 4 ∧ Int.ofNat 4 ≤ Int.ofNat (List.length vs) ∧ Int.ofNat (List.length vs) ≤ ↑(List.length vs) ∧ some 1 = some 1 ∧ ∀ (v45 : V), List.Mem v45 vs → V.sz v45 = 1) ∧
                                                                                (True →
                                                                                  ∀ (x48 : List V),
                                                                                    x48 = List.take (Int.toNat (Int.ofNat (List.length vs) - Int.ofNat 4)) (List.drop (Int.toNat (Int.ofNat 4)) vs) →
                                                                                      (BLs x48 ∧ 4 ≤ List.length x48) ∧
                                                                                        ∀ (x50 : Int),
                                                                                          x50 = numS x48 →
                                                                                            List.length vs ≤ 9223372036854775807 →
                                                                                              ∀ (x53 : Int),
                                                                                                x53 = ↑(List.length vs) →
                                                                                                  ∀ (x55 : Int),
                                                                                                    x55 = IntKind.wrap IntKind.i64 (x53 - 8) →
                                                                                                      ∀ (x57 : Bool),
                                                                                                        x57 = (x50 != x55) →
                                                                                                          (x57 = true → r = V.tup [V.list false [], V.int IntKind.i64 5]) ∧
                                                                                                            (x57 = false →
                                                                                                              (True ∧ false = false ∧ True ∧ True ∧ True ∧ ((none : Option V) ≠ none → (none : Option V) ≠ none ∧ Int.ofNat 0 = Int.ofNat 0) ∧ 0 ≤ Int.ofNat 12 ∧ Int.ofNat 12 ≤ Int.ofNat (List.length vs) ∧ Int.ofNat (List.length vs) ≤ ↑(List.length vs) ∧ some 1 = some 1 ∧ ∀ (v62 : V), List.Mem v62 vs → V.sz v62 = 1) ∧
                                                                                                                (True →
                                                                                                                  ∀ (x65 : List V),
                                                                                                                    x65 = List.take (Int.toNat (Int.ofNat (List.length vs) - Int.ofNat 12)) (List.drop (Int.toNat (Int.ofNat 12)) vs) →
                                                                                                                      BLs x65 ∧
                                                                                                                        List.length x65 ≤ 65536 ∧
                                                                                                                          ((parseR [] x65).2 = 0 → List.length (parseR [] x65).1 = List.length (parseR [] x65).1 ∧ r = V.tup [V.list false (parseR [] x65).1, V.int IntKind.i64 0]) ∧ ((parseR [] x65).2 ≠ 0 → r = V.tup [V.list false [], V.int IntKind.i64 (parseR [] x65).2]))))))))))))) := by kernel_rfl
end GoL
