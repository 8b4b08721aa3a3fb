/- A part of the proof: a logic for programs of this kind, proved sound over the model; contracts of functions; plain laws. -/
import Derived.Test.YtkkmiicadfmfdaaXD
set_option linter.all false
open Go Go.Proofs
namespace GoL
set_option linter.unusedVariables false
set_option maxRecDepth 100000
theorem nl18s (s : List UInt8) (ls : List V) (i : Int) (Nx Ex Rt : List V → List Blk → Prop) : wC Try.prog sp18 25 noHint (prsOf []) noLs 0 (lcode Try.f18 0).2 1000 (List.zip [0, 1, 6] [.sl 0 ls.length, .str s, .int .i64 i]) (List.zip [0] [⟨some 36, false, .agg ls⟩]) (endK ends18s Nx Ex Rt) = (
  List.length ls = List.length ls ∧
    (List.length ls ≤ 9223372036854775807 →
      ∀ (x1 : Int),
        x1 = ↑(List.length ls) →
          ∀ (x3 : Bool),
            x3 = decide (i < x1) →
              (x3 = true →
                  List.length ls = List.length ls ∧
                    0 ≤ i ∧
                      i < ↑(List.length ls) ∧
                        some 2 = some 2 ∧
                          List.length ls = List.length ls ∧
                            ∃ s6,
                              subQ (V.agg ls) [Int.toNat i, 0] = some (V.str s6) ∧
                                List.length ls = List.length ls ∧
                                  offQ (V.agg ls) [Int.toNat i, 0] = Int.toNat i * 2 + 0 ∧
                                    ∀ (x7 : Bool),
                                      x7 = (s6 == s) →
                                        (x7 = true →
                                            List.length ls = List.length ls ∧
                                              0 ≤ i ∧ i < ↑(List.length ls) ∧ some 2 = some 2 ∧ List.length ls = List.length ls ∧ ∃ s10, subQ (V.agg ls) [Int.toNat i, 1] = some (V.str s10) ∧ List.length ls = List.length ls ∧ offQ (V.agg ls) [Int.toNat i, 1] = Int.toNat i * 2 + 1 ∧ NoIds ls ∧ Rt [V.str s10, V.gd true (V.bool true)] [{ arr := some 36, fz := false, t := V.agg ls }]) ∧
                                          (x7 = false → ∀ (x12 : Int), x12 = IntKind.wrap IntKind.i64 (i + 1) → NoIds ls ∧ Nx [V.sl 0 (List.length ls), V.str s, V.int IntKind.i64 x12] [{ arr := some 36, fz := false, t := V.agg ls }])) ∧
                (x3 = false → NoIds ls ∧ Ex [] [{ arr := some 36, fz := false, t := V.agg ls }]))) := by kernel_rfl
theorem n18s (s : List UInt8) (ls : List V) (r : V) (ks : List Blk) : wC Try.prog sp18 25 noHint (prsOf []) ls18s 0 (bodyOf Try.f18) 1000 (initL [.sl 0 ls.length, .str s] 0) [(0, ⟨some 36, false, .agg ls⟩)] (finH Try.prog none Try.f18.results.toList [0] fun v bs => r = v ∧ ks = bs) = (
  NoIds ls ∧ List.length ls = List.length ls ∧ Int.ofNat 0 = 0 ∧ CLs ls ∧ ((findS s ls).2 = false → r = V.tup [V.str [], V.bool false] ∧ ks = [{ arr := some 36, fz := false, t := V.agg ls }]) ∧ ((findS s ls).2 = true → r = V.tup [V.str (findS s ls).1, V.bool true] ∧ ks = [{ arr := some 36, fz := false, t := V.agg ls }])) := by kernel_rfl
theorem nl25_0 (vs acc : List V) (a f i : Int) (z1 z2 nm d : List UInt8) (Nx Ex Rt : List V → List Blk → Prop) : wC Try.prog sp25 77 noHint (prsOf [(7, [[], [0], [1, 0], [], [], [4], [3, 5, 4], [6, 3, 5, 4], [2, 1, 0, 7, 6, 3, 5, 4], [], [9, 8, 2, 1, 0, 7, 6, 3, 5, 4]]), (18, [[], [], [], [2], [1, 3, 2], [0], [4, 1, 3, 2, 5, 0], [6, 4, 1, 3, 2, 5, 0]])]) noLs 0 (lcode Try.f25 0).2 1034 (List.zip [0, 1, 4, 8, 9, 10, 11] [.list false vs, .sl 0 acc.length, .ptr 1000 0 [], .int .i64 a, .ptr 1029 0 [], .int .i64 f, .int .i64 i]) (List.zip [0, 1000, 1029] [⟨some 36, false, .agg acc⟩, ⟨none, false, .agg [.str z1, .str z2]⟩, ⟨none, false, .agg [.str nm, .str d]⟩]) (endK ends25_0 Nx Ex Rt) = (
  ∀ (x0 : Bool),
    x0 = decide (i < a) →
      (x0 = true →
          ∀ (x3 : Int),
            x3 = IntKind.wrap IntKind.i64 (8 + i) →
              0 ≤ x3 ∧
                x3 < ↑(List.length vs) ∧
                  ∃ n5,
                    getV vs x3 = V.int IntKind.u8 n5 ∧
                      true = true ∧
                        (True →
                          ∀ (x7 : Int),
                            x7 = IntKind.wrap IntKind.i64 n5 →
                              ∀ (x9 : Int),
                                x9 = IntKind.wrap IntKind.i64 (f + x7) →
                                  ∀ (x11 : Int),
                                    x11 = IntKind.wrap IntKind.i64 (i + 1) →
                                      NoIds acc ∧ Nx [V.list false vs, V.sl 0 (List.length acc), V.ptr 1000 0 [], V.int IntKind.i64 a, V.ptr 1029 0 [], V.int IntKind.i64 x9, V.int IntKind.i64 x11] [{ arr := some 36, fz := false, t := V.agg acc }, { arr := none, fz := false, t := V.agg [V.str z1, V.str z2] }, { arr := none, fz := false, t := V.agg [V.str nm, V.str d] }])) ∧
        (x0 = false → NoIds acc ∧ Ex [V.list false vs, V.sl 0 (List.length acc), V.ptr 1000 0 [], V.int IntKind.i64 a, V.ptr 1029 0 [], V.int IntKind.i64 f] [{ arr := some 36, fz := false, t := V.agg acc }, { arr := none, fz := false, t := V.agg [V.str z1, V.str z2] }, { arr := none, fz := false, t := V.agg [V.str nm, V.str d] }])) := by kernel_rfl
theorem n25 (vs acc : List V) (r : V) (ks : List Blk) : wC Try.prog sp25 77 noHint (prsOf [(7, [[], [0], [1, 0], [], [], [4], [3, 5, 4], [6, 3, 5, 4], [2, 1, 0, 7, 6, 3, 5, 4], [], [9, 8, 2, 1, 0, 7, 6, 3, 5, 4]]), (18, [[], [], [], [2], [1, 3, 2], [0], [4, 1, 3, 2, 5, 0], [6, 4, 1, 3, 2, 5, 0]])]) ls25 0 (bodyOf Try.f25) 1000 (initL [.list false vs, .sl 0 acc.length] 0) [(0, ⟨some 36, false, .agg acc⟩)] (finH Try.prog none Try.f25.results.toList [0] fun v bs => r = v ∧ ks = bs) = (
  List.length vs ≤ 9223372036854775807 →
    ∀ (x1 : Int),
      x1 = ↑(List.length vs) →
        ∀ (x3 : Bool),
          x3 = decide (x1 < 8) →
            (x3 = true → r = V.tup [V.agg [V.str [], V.str []], V.nils, V.int IntKind.i64 3] ∧ ks = [{ arr := some 36, fz := false, t := V.agg acc }]) ∧
              (x3 = false →
                (True ∧ false = false ∧ True ∧ True ∧ True ∧ ((none : Option V) ≠ none → some (V.int IntKind.i64 8) ≠ none ∧ Int.ofNat 0 = Int.ofNat 8) ∧ 0 ≤ Int.ofNat 4 ∧ Int.ofNat 4 ≤ Int.ofNat 8 ∧ Int.ofNat 8 ≤ ↑(List.length vs) ∧ some 1 = some 1 ∧ ∀ (v8 : V), List.Mem v8 vs → V.sz v8 = 1) ∧
                  (True →
                    ∀ (x11 : List V),
                      x11 = List.take (Int.toNat (Int.ofNat 8 - Int.ofNat 4)) (List.drop (Int.toNat (Int.ofNat 4)) vs) →
                        (BLs x11 ∧ 4 ≤ List.length x11) ∧
                          ∀ (x13 : Int),
                            x13 = numS x11 →
                              ∀ (x15 : Int),
                                x15 = IntKind.wrap IntKind.i64 (x13 + 3) →
                                  (IntKind.i64 = IntKind.i64 ∧ (Int.ofNat 4 = 0 → False)) ∧
                                    (True →
                                      ∀ (x19 : Int),
                                        x19 = IntKind.wrap IntKind.i64 (Int.tdiv x15 4) →
                                          ∀ (x21 : Int),
                                            x21 = IntKind.wrap IntKind.i64 (x19 * 4) →
                                              List.length vs ≤ 9223372036854775807 →
                                                ∀ (x24 : Int),
                                                  x24 = ↑(List.length vs) →
                                                    ∀ (x26 : Int),
                                                      x26 = IntKind.wrap IntKind.i64 (x24 - 8) →
                                                        ∀ (x28 : Bool),
                                                          x28 = decide (x26 < x21) →
                                                            (x28 = true → r = V.tup [V.agg [V.str [], V.str []], V.nils, V.int IntKind.i64 3] ∧ ks = [{ arr := some 36, fz := false, t := V.agg acc }]) ∧
                                                              (x28 = false →
                                                                (True ∧ false = false ∧ True ∧ True ∧ True ∧ ((none : Option V) ≠ none → some (V.int IntKind.i64 4) ≠ none ∧ Int.ofNat 0 = Int.ofNat 4) ∧ 0 ≤ Int.ofNat 0 ∧ Int.ofNat 0 ≤ Int.ofNat 4 ∧ Int.ofNat 4 ≤ ↑(List.length vs) ∧ some 1 = some 1 ∧ ∀ (v33 : V), List.Mem v33 vs → V.sz v33 = 1) ∧
                                                                  ∀ (x35 : List V),
                                                                    x35 = List.take (Int.toNat (Int.ofNat 4 - Int.ofNat 0)) vs →
                                                                      (some IntKind.u8 = some IntKind.u8 ∧ some 1 = some 1 ∧ true = true ∧ True ∧ V.list false x35 ≠ V.junk ∧ ∀ (v37 : V), List.Mem v37 x35 → isByte v37) ∧
                                                                        ∀ (x39 : List UInt8),
                                                                          x39 = List.map byteV x35 →
                                                                            ∀ (x41 : Int),
                                                                              x41 = IntKind.wrap IntKind.i64 (8 + x13) →
                                                                                (True ∧ false = false ∧ True ∧ True ∧ True ∧ ((none : Option V) ≠ none → some (V.int IntKind.i64 x41) ≠ none ∧ Int.ofNat 0 = x41) ∧ 0 ≤ Int.ofNat 8 ∧ Int.ofNat 8 ≤ x41 ∧ x41 ≤ ↑(List.length vs) ∧ some 1 = some 1 ∧ ∀ (v44 : V), List.Mem v44 vs → V.sz v44 = 1) ∧
                                                                                  ∀ (x46 : List V),
                                                                                    x46 = List.take (Int.toNat (x41 - Int.ofNat 8)) (List.drop (Int.toNat (Int.ofNat 8)) vs) →
                                                                                      (some IntKind.u8 = some IntKind.u8 ∧ some 1 = some 1 ∧ true = true ∧ True ∧ V.list false x46 ≠ V.junk ∧ ∀ (v48 : V), List.Mem v48 x46 → isByte v48) ∧
                                                                                        ∀ (x50 : List UInt8),
                                                                                          x50 = List.map byteV x46 →
                                                                                            NoIds acc ∧
                                                                                              BLs vs ∧
                                                                                                List.length acc = List.length acc ∧
                                                                                                  Int.ofNat 0 = 0 ∧
                                                                                                    0 ≤ x13 ∧
                                                                                                      x13 ≤ x21 ∧
                                                                                                        x21 + (8 : Int) ≤ ↑(List.length vs) ∧
                                                                                                          List.length vs ≤ 65536 ∧
                                                                                                            CLs acc ∧
                                                                                                              ∀ (x52 : Int),
                                                                                                                x52 = sumB vs (Int.toNat (x13 + 8)) (Int.toNat (x21 - x13)) →
                                                                                                                  ∀ (x54 : Bool),
                                                                                                                    x54 = !namedS x39 →
                                                                                                                      (x54 = true → r = V.tup [V.agg [V.str [], V.str []], V.nils, V.int IntKind.i64 4] ∧ ks = [{ arr := some 36, fz := false, t := V.agg acc }]) ∧
                                                                                                                        (x54 = false →
                                                                                                                          ∀ (x58 : Bool),
                                                                                                                            x58 = decide (x52 > 0) →
                                                                                                                              (x58 = true → r = V.tup [V.agg [V.str [], V.str []], V.nils, V.int IntKind.i64 4] ∧ ks = [{ arr := some 36, fz := false, t := V.agg acc }]) ∧
                                                                                                                                (x58 = false →
                                                                                                                                  (List.length acc = List.length acc ∧ CLs acc) ∧
                                                                                                                                    ∀ (d62 : List UInt8) (b63 : Bool),
                                                                                                                                      findS x39 acc = (d62, b63) →
                                                                                                                                        (b63 = true → r = V.tup [V.agg [V.str [], V.str []], V.nils, V.int IntKind.i64 6] ∧ ks = [{ arr := some 36, fz := false, t := V.agg acc }]) ∧
                                                                                                                                          (b63 = false →
                                                                                                                                            ∀ (x67 : Int),
                                                                                                                                              x67 = IntKind.wrap IntKind.i64 (8 + x21) →
                                                                                                                                                (True ∧
                                                                                                                                                    false = false ∧ True ∧ True ∧ True ∧ ((none : Option V) ≠ none → (none : Option V) ≠ none ∧ Int.ofNat 0 = Int.ofNat 0) ∧ 0 ≤ x67 ∧ x67 ≤ Int.ofNat (List.length vs) ∧ Int.ofNat (List.length vs) ≤ ↑(List.length vs) ∧ some 1 = some 1 ∧ ∀ (v70 : V), List.Mem v70 vs → V.sz v70 = 1) ∧
                                                                                                                                                  ∀ (x72 : List V),
                                                                                                                                                    x72 = List.take (Int.toNat (Int.ofNat (List.length vs) - x67)) (List.drop (Int.toNat x67) vs) → r = V.tup [V.agg [V.str x39, V.str x50], V.list false x72, V.int IntKind.i64 0] ∧ ks = [{ arr := some 36, fz := false, t := V.agg acc }])))))))) := by kernel_rfl
theorem nl15_0 (vs acc : List V) (Nx Ex Rt : List V → List Blk → Prop) : wC Try.prog sp15 58 noHint (prsOf []) noLs 1 (lcode Try.f15 0).2 1035 (List.zip [4, 5] [.sl 1034 acc.length, .list false vs]) (List.zip [1034] [⟨some 36, false, .agg acc⟩]) (endK ends15_0 Nx Ex Rt) = (
  List.length vs ≤ 9223372036854775807 →
    ∀ (x1 : Int),
      x1 = ↑(List.length vs) →
        ∀ (x3 : Bool),
          x3 = decide (x1 > 0) →
            (x3 = true →
                (List.length acc = List.length acc ∧ BLs vs ∧ CLs acc ∧ List.length vs ≤ 65536) ∧
                  ∀ (e6 : Int),
                    ErrIs acc vs e6 →
                      (e6 = 0 →
                          ∀ (nm9 d10 : List UInt8) (w11 : List V),
                            ChkIs vs nm9 d10 →
                              NxtIs vs w11 →
                                ∀ (x14 : Bool),
                                  x14 = (0 != 0) →
                                    (x14 = true → Rt [V.nils, V.int IntKind.i64 0] []) ∧
                                      (x14 = false →
                                        (List.length acc = List.length acc ∧
                                            36 = 36 ∧ ((true || false) = true ∧ True) ∧ (∀ (v18 : V), List.Mem v18 [V.agg [V.str nm9, V.str d10]] → V.sz v18 = 2) ∧ some 2 = some 2 ∧ true = true ∧ ∃ b20, some 32 = some b20 ∧ (List.length acc + List.length [V.agg [V.str nm9, V.str d10]]) * b20 ≤ 140737488355328 ∧ List.length acc + List.length [V.agg [V.str nm9, V.str d10]] ≤ 9223372036854775807) ∧
                                          (True → NoIds (acc ++ [V.agg [V.str nm9, V.str d10]]) ∧ Nx [V.sl 1034 (List.length acc + List.length [V.agg [V.str nm9, V.str d10]]), V.list false w11] [{ arr := some 36, fz := false, t := V.agg (acc ++ [V.agg [V.str nm9, V.str d10]]) }]))) ∧
                        (e6 ≠ 0 →
                          ∀ (x23 : Bool),
                            x23 = (e6 != 0) →
                              (x23 = true → Rt [V.nils, V.int IntKind.i64 e6] []) ∧
                                (x23 = false →
                                  (List.length acc = List.length acc ∧
                                      36 = 36 ∧ ((true || false) = true ∧ True) ∧ (∀ (v27 : V), List.Mem v27 [V.agg [V.str [], V.str []]] → V.sz v27 = 2) ∧ some 2 = some 2 ∧ true = true ∧ ∃ b29, some 32 = some b29 ∧ (List.length acc + List.length [V.agg [V.str [], V.str []]]) * b29 ≤ 140737488355328 ∧ List.length acc + List.length [V.agg [V.str [], V.str []]] ≤ 9223372036854775807) ∧
                                    (True → NoIds (acc ++ [V.agg [V.str [], V.str []]]) ∧ Nx [V.sl 1034 (List.length acc + List.length [V.agg [V.str [], V.str []]]), V.nils] [{ arr := some 36, fz := false, t := V.agg (acc ++ [V.agg [V.str [], V.str []]]) }])))) ∧
              (x3 = false → NoIds acc ∧ Ex [V.sl 1034 (List.length acc)] [{ arr := some 36, fz := false, t := V.agg acc }])) := by kernel_rfl
theorem n15 (vs : List V) (r : V) : wC Try.prog sp15 58 noHint (prsOf []) ls15 0 (bodyOf Try.f15) 1000 (initL [.list false vs] 0) [] (finK Try.prog none Try.f15.results.toList r) = (
  List.length vs ≤ 9223372036854775807 →
    ∀ (x1 : Int),
      x1 = ↑(List.length vs) →
        ∀ (x3 : Bool),
          x3 = decide (x1 > 65536) →
            (x3 = true → r = V.tup [V.list false [], V.int IntKind.i64 2]) ∧
              (x3 = false →
                List.length vs ≤ 9223372036854775807 →
                  ∀ (x8 : Int),
                    x8 = ↑(List.length vs) →
                      ∀ (x10 : Bool),
                        x10 = decide (x8 < 12) →
                          (x10 = true → r = V.tup [V.list false [], V.int IntKind.i64 3]) ∧
                            (x10 = false →
                              (True ∧ false = false ∧ True ∧ True ∧ True ∧ ((none : Option V) ≠ none → some (V.int IntKind.i64 4) ≠ none ∧ Int.ofNat 0 = Int.ofNat 4) ∧ 0 ≤ Int.ofNat 0 ∧ Int.ofNat 0 ≤ Int.ofNat 4 ∧ Int.ofNat 4 ≤ ↑(List.length vs) ∧ some 1 = some 1 ∧ ∀ (v15 : V), List.Mem v15 vs → V.sz v15 = 1) ∧
                                (True →
                                  ∀ (x18 : List V),
                                    x18 = List.take (Int.toNat (Int.ofNat 4 - Int.ofNat 0)) vs →
                                      (some IntKind.u8 = some IntKind.u8 ∧ some 1 = some 1 ∧ true = true ∧ True ∧ V.list false x18 ≠ V.junk ∧ ∀ (v20 : V), List.Mem v20 x18 → isByte v20) ∧
                                        (True →
                                          ∀ (x23 : List UInt8),
                                            x23 = List.map byteV x18 →
                                              ∀ (x25 : Bool),
                                                x25 = (x23 != [70, 79, 82, 49]) →
                                                  (x25 = true → r = V.tup [V.list false [], V.int IntKind.i64 5]) ∧
                                                    (x25 = false →
                                                      (True ∧ false = false ∧ True ∧ True ∧ True ∧ ((none : Option V) ≠ none → some (V.int IntKind.i64 12) ≠ none ∧ Int.ofNat 0 = Int.ofNat 12) ∧ 0 ≤ Int.ofNat 8 ∧ Int.ofNat 8 ≤ Int.ofNat 12 ∧ Int.ofNat 12 ≤ ↑(List.length vs) ∧ some 1 = some 1 ∧ ∀ (v30 : V), List.Mem v30 vs → V.sz v30 = 1) ∧
                                                        (True →
                                                          ∀ (x33 : List V),
                                                            x33 = List.take (Int.toNat (Int.ofNat 12 - Int.ofNat 8)) (List.drop (Int.toNat (Int.ofNat 8)) vs) →
                                                              (some IntKind.u8 = some IntKind.u8 ∧ some 1 = some 1 ∧ true = true ∧ True ∧ V.list false x33 ≠ V.junk ∧ ∀ (v35 : V), List.Mem v35 x33 → isByte v35) ∧
                                                                (True →
                                                                  ∀ (x38 : List UInt8),
                                                                    x38 = List.map byteV x33 →
                                                                      ∀ (x40 : Bool),
                                                                        x40 = (x38 != [66, 69, 65, 77]) →
                                                                          (x40 = true → r = V.tup [V.list false [], V.int IntKind.i64 5]) ∧
                                                                            (x40 = false →
                                                                              (True ∧ false = false ∧ True ∧ True ∧ True ∧ ((none : Option V) ≠ none → some (V.int IntKind.i64 8) ≠ none ∧ Int.ofNat 0 = Int.ofNat 8) ∧ 0 ≤ Int.ofNat 4 ∧ Int.ofNat 4 ≤ Int.ofNat 8 ∧ Int.ofNat 8 ≤ ↑(List.length vs) ∧ some 1 = some 1 ∧ ∀ (v45 : V), List.Mem v45 vs → V.sz v45 = 1) ∧
                                                                                (True →
                                                                                  ∀ (x48 : List V),
                                                                                    x48 = List.take (Int.toNat (Int.ofNat 8 - Int.ofNat 4)) (List.drop (Int.toNat (Int.ofNat 4)) vs) →
                                                                                      (BLs x48 ∧ 4 ≤ List.length x48) ∧
                                                                                        ∀ (x50 : Int),
                                                                                          x50 = numS x48 →
                                                                                            List.length vs ≤ 9223372036854775807 →
                                                                                              ∀ (x53 : Int),
                                                                                                x53 = ↑(List.length vs) →
                                                                                                  ∀ (x55 : Int),
                                                                                                    x55 = IntKind.wrap IntKind.i64 (x53 - 8) →
                                                                                                      ∀ (x57 : Bool),
                                                                                                        x57 = (x50 != x55) →
                                                                                                          (x57 = true → r = V.tup [V.list false [], V.int IntKind.i64 5]) ∧
                                                                                                            (x57 = false →
                                                                                                              (True ∧ false = false ∧ True ∧ True ∧ True ∧ ((none : Option V) ≠ none → (none : Option V) ≠ none ∧ Int.ofNat 0 = Int.ofNat 0) ∧ 0 ≤ Int.ofNat 12 ∧ Int.ofNat 12 ≤ Int.ofNat (List.length vs) ∧ Int.ofNat (List.length vs) ≤ ↑(List.length vs) ∧ some 1 = some 1 ∧ ∀ (v62 : V), List.Mem v62 vs → V.sz v62 = 1) ∧
                                                                                                                (True →
                                                                                                                  ∀ (x65 : List V),
                                                                                                                    x65 = List.take (Int.toNat (Int.ofNat (List.length vs) - Int.ofNat 12)) (List.drop (Int.toNat (Int.ofNat 12)) vs) →
                                                                                                                      BLs x65 ∧
                                                                                                                        List.length x65 ≤ 65536 ∧
                                                                                                                          ((parseR [] x65).2 = 0 → List.length (parseR [] x65).1 = List.length (parseR [] x65).1 ∧ r = V.tup [V.list false (parseR [] x65).1, V.int IntKind.i64 0]) ∧ ((parseR [] x65).2 ≠ 0 → r = V.tup [V.list false [], V.int IntKind.i64 (parseR [] x65).2]))))))))))))) := by kernel_rfl
theorem nl16_1 (ls rows : List V) (i k : Int) (Nx Ex Rt : List V → List Blk → Prop) : wC Try.prog sp16 84 noHint (prsOf [(7, [[], [], [0, 1], [], [], [3, 4], [5, 3, 4], [6, 5, 3, 4], [2, 0, 1, 7, 6, 5, 3, 4], [8, 2, 0, 1, 7, 6, 5, 3, 4], [9, 8, 2, 0, 1, 7, 6, 5, 3, 4], [9, 8, 2, 0, 1, 7, 6, 5, 3, 4], [10, 9, 8, 2, 0, 1, 7, 6, 5, 3, 4], [11, 9, 8, 2, 0, 1, 7, 6, 5, 3, 4, 12, 10]]), (10, [[], [], [], [1, 2], [3, 1, 2], [4, 3, 1, 2], [0, 5, 4, 3, 1, 2], [], [], [7, 8], [9, 7, 8], [10, 9, 7, 8], [11, 10, 9, 7, 8], [12, 11, 10, 9, 7, 8, 6, 0, 5, 4, 3, 1, 2], [6, 0, 5, 4, 3, 1, 2, 13, 12, 11, 10, 9, 7, 8], [14, 6, 0, 5, 4, 3, 1, 2, 13, 12, 11, 10, 9, 7, 8]])]) noLs 2 (lin (lcode Try.f16 0) 0).2 1005 (List.zip [0, 4, 5, 8] [.list false ls, .sl 1004 rows.length, .int .i64 i, .int .i64 k]) (List.zip [1004] [⟨some 5, false, .agg rows⟩]) (endK ends16_1 Nx Ex Rt) = (
  (IntKind.i64 = IntKind.i64 ∧ (Int.ofNat 4 = 0 → False)) ∧
    (True →
      ∀ (x2 : Int),
        x2 = Int.tmod k 4 →
          ∀ (x4 : Bool),
            x4 = (x2 != 0) →
              (x4 = true →
                  (List.length rows = List.length rows ∧
                      5 = 5 ∧ ((true || false) = true ∧ 1 = List.length [V.int IntKind.u8 0]) ∧ (∀ (v7 : V), List.Mem v7 [V.int IntKind.u8 0] → V.sz v7 = 1) ∧ some 1 = some 1 ∧ true = true ∧ ∃ b9, some 1 = some b9 ∧ (List.length rows + List.length [V.int IntKind.u8 0]) * b9 ≤ 140737488355328 ∧ List.length rows + List.length [V.int IntKind.u8 0] ≤ 9223372036854775807) ∧
                    (True → ∀ (x11 : Int), x11 = IntKind.wrap IntKind.i64 (k + 1) → NoIds (rows ++ [V.int IntKind.u8 0]) ∧ Nx [V.list false ls, V.sl 1004 (List.length rows + List.length [V.int IntKind.u8 0]), V.int IntKind.i64 i, V.int IntKind.i64 x11] [{ arr := some 5, fz := false, t := V.agg (rows ++ [V.int IntKind.u8 0]) }])) ∧
                (x4 = false → NoIds rows ∧ Ex [V.list false ls, V.sl 1004 (List.length rows), V.int IntKind.i64 i] [{ arr := some 5, fz := false, t := V.agg rows }]))) := by kernel_rfl
theorem nl16_0 (ls rows : List V) (i : Int) (Nx Ex Rt : List V → List Blk → Prop) : wC Try.prog sp16 84 noHint (prsOf [(7, [[], [], [0, 1], [], [], [3, 4], [5, 3, 4], [6, 5, 3, 4], [2, 0, 1, 7, 6, 5, 3, 4], [8, 2, 0, 1, 7, 6, 5, 3, 4], [9, 8, 2, 0, 1, 7, 6, 5, 3, 4], [9, 8, 2, 0, 1, 7, 6, 5, 3, 4], [10, 9, 8, 2, 0, 1, 7, 6, 5, 3, 4], [11, 9, 8, 2, 0, 1, 7, 6, 5, 3, 4, 12, 10]]), (10, [[], [], [], [1, 2], [3, 1, 2], [4, 3, 1, 2], [0, 5, 4, 3, 1, 2], [], [], [7, 8], [9, 7, 8], [10, 9, 7, 8], [11, 10, 9, 7, 8], [12, 11, 10, 9, 7, 8, 6, 0, 5, 4, 3, 1, 2], [6, 0, 5, 4, 3, 1, 2, 13, 12, 11, 10, 9, 7, 8], [14, 6, 0, 5, 4, 3, 1, 2, 13, 12, 11, 10, 9, 7, 8]])]) ls16i 0 (lcode Try.f16 0).2 1005 (List.zip [0, 4, 5] [.list false ls, .sl 1004 rows.length, .int .i64 i]) (List.zip [1004] [⟨some 5, false, .agg rows⟩]) (endK ends16_0 Nx Ex Rt) = (
  List.length ls ≤ 9223372036854775807 →
    ∀ (x1 : Int),
      x1 = ↑(List.length ls) →
        ∀ (x3 : Bool),
          x3 = decide (i < x1) →
            (x3 = true →
                0 ≤ i ∧
                  i < ↑(List.length ls) ∧
                    ∃ s6 s7,
                      getV ls i = V.agg [V.str s6, V.str s7] ∧
                        ∀ (x8 : Bool),
                          x8 = !namedS s6 →
                            (x8 = true → Rt [V.nils, V.int IntKind.i64 1] []) ∧
                              (x8 = false →
                                (True ∧ false = false ∧ True ∧ True ∧ True ∧ ((none : Option V) ≠ none → some (V.int IntKind.i64 i) ≠ none ∧ Int.ofNat 0 = i) ∧ 0 ≤ Int.ofNat 0 ∧ Int.ofNat 0 ≤ i ∧ i ≤ ↑(List.length ls) ∧ some 2 = some 2 ∧ ∀ (v13 : V), List.Mem v13 ls → V.sz v13 = 2) ∧
                                  ∀ (x15 : List V),
                                    x15 = List.take (Int.toNat (i - Int.ofNat 0)) ls →
                                      0 ≤ i ∧
                                        i < ↑(List.length ls) ∧
                                          ∃ s17 s18,
                                            getV ls i = V.agg [V.str s17, V.str s18] ∧
                                              CLs x15 ∧
                                                ((findS s17 x15).2 = true → Rt [V.nils, V.int IntKind.i64 6] []) ∧
                                                  ((findS s17 x15).2 = false →
                                                    0 ≤ i ∧
                                                      i < ↑(List.length ls) ∧
                                                        ∃ s21 s22,
                                                          getV ls i = V.agg [V.str s21, V.str s22] ∧
                                                            (List.length rows = List.length rows ∧
                                                                5 = 5 ∧
                                                                  ((false || true) = true ∧ True) ∧
                                                                    (∀ (v23 : V), List.Mem v23 (List.map (fun b => V.int IntKind.u8 ↑(UInt8.toNat b)) s21) → V.sz v23 = 1) ∧
                                                                      some 1 = some 1 ∧ true = true ∧ ∃ b25, some 1 = some b25 ∧ (List.length rows + List.length (List.map (fun b => V.int IntKind.u8 ↑(UInt8.toNat b)) s21)) * b25 ≤ 140737488355328 ∧ List.length rows + List.length (List.map (fun b => V.int IntKind.u8 ↑(UInt8.toNat b)) s21) ≤ 9223372036854775807) ∧
                                                              0 ≤ i ∧
                                                                i < ↑(List.length ls) ∧
                                                                  ∃ s26 s27,
                                                                    getV ls i = V.agg [V.str s26, V.str s27] ∧
                                                                      ∀ (x28 : Int),
                                                                        x28 = ↑(List.length s27) →
                                                                          (0 ≤ x28 ∧ x28 < 4294967296) ∧
                                                                            (List.length rows + List.length (List.map (fun b => V.int IntKind.u8 ↑(UInt8.toNat b)) s21) = List.length (rows ++ List.map (fun b => V.int IntKind.u8 ↑(UInt8.toNat b)) s21) ∧
                                                                                5 = 5 ∧
                                                                                  ((true || false) = true ∧ True) ∧
                                                                                    (∀ (v30 : V), List.Mem v30 [V.int IntKind.u8 (IntKind.wrap IntKind.u8 (Int.fdiv x28 16777216)), V.int IntKind.u8 (IntKind.wrap IntKind.u8 (Int.fdiv x28 65536)), V.int IntKind.u8 (IntKind.wrap IntKind.u8 (Int.fdiv x28 256)), V.int IntKind.u8 (IntKind.wrap IntKind.u8 x28)] → V.sz v30 = 1) ∧
                                                                                      some 1 = some 1 ∧
                                                                                        true = true ∧
                                                                                          ∃ b32,
                                                                                            some 1 = some b32 ∧
                                                                                              (List.length rows + List.length (List.map (fun b => V.int IntKind.u8 ↑(UInt8.toNat b)) s21) +
                                                                                                      List.length [V.int IntKind.u8 (IntKind.wrap IntKind.u8 (Int.fdiv x28 16777216)), V.int IntKind.u8 (IntKind.wrap IntKind.u8 (Int.fdiv x28 65536)), V.int IntKind.u8 (IntKind.wrap IntKind.u8 (Int.fdiv x28 256)), V.int IntKind.u8 (IntKind.wrap IntKind.u8 x28)]) *
                                                                                                    b32 ≤
                                                                                                  140737488355328 ∧
                                                                                                List.length rows + List.length (List.map (fun b => V.int IntKind.u8 ↑(UInt8.toNat b)) s21) +
                                                                                                    List.length [V.int IntKind.u8 (IntKind.wrap IntKind.u8 (Int.fdiv x28 16777216)), V.int IntKind.u8 (IntKind.wrap IntKind.u8 (Int.fdiv x28 65536)), V.int IntKind.u8 (IntKind.wrap IntKind.u8 (Int.fdiv x28 256)), V.int IntKind.u8 (IntKind.wrap IntKind.u8 x28)] ≤
                                                                                                  9223372036854775807) ∧
                                                                              0 ≤ i ∧
                                                                                i < ↑(List.length ls) ∧
                                                                                  ∃ s33 s34,
                                                                                    getV ls i = V.agg [V.str s33, V.str s34] ∧
                                                                                      (List.length (rows ++ List.map (fun b => V.int IntKind.u8 ↑(UInt8.toNat b)) s21) +
                                                                                              List.length [V.int IntKind.u8 (IntKind.wrap IntKind.u8 (Int.fdiv x28 16777216)), V.int IntKind.u8 (IntKind.wrap IntKind.u8 (Int.fdiv x28 65536)), V.int IntKind.u8 (IntKind.wrap IntKind.u8 (Int.fdiv x28 256)), V.int IntKind.u8 (IntKind.wrap IntKind.u8 x28)] =
                                                                                            List.length
                                                                                              (rows ++ List.map (fun b => V.int IntKind.u8 ↑(UInt8.toNat b)) s21 ++
                                                                                                [V.int IntKind.u8 (IntKind.wrap IntKind.u8 (Int.fdiv x28 16777216)), V.int IntKind.u8 (IntKind.wrap IntKind.u8 (Int.fdiv x28 65536)), V.int IntKind.u8 (IntKind.wrap IntKind.u8 (Int.fdiv x28 256)), V.int IntKind.u8 (IntKind.wrap IntKind.u8 x28)]) ∧
                                                                                          5 = 5 ∧
                                                                                            ((false || true) = true ∧ True) ∧
                                                                                              (∀ (v35 : V), List.Mem v35 (List.map (fun b => V.int IntKind.u8 ↑(UInt8.toNat b)) s34) → V.sz v35 = 1) ∧
                                                                                                some 1 = some 1 ∧
                                                                                                  true = true ∧
                                                                                                    ∃ b37,
                                                                                                      some 1 = some b37 ∧
                                                                                                        (List.length (rows ++ List.map (fun b => V.int IntKind.u8 ↑(UInt8.toNat b)) s21) +
                                                                                                                  List.length [V.int IntKind.u8 (IntKind.wrap IntKind.u8 (Int.fdiv x28 16777216)), V.int IntKind.u8 (IntKind.wrap IntKind.u8 (Int.fdiv x28 65536)), V.int IntKind.u8 (IntKind.wrap IntKind.u8 (Int.fdiv x28 256)), V.int IntKind.u8 (IntKind.wrap IntKind.u8 x28)] +
                                                                                                                List.length (List.map (fun b => V.int IntKind.u8 ↑(UInt8.toNat b)) s34)) *
                                                                                                              b37 ≤
                                                                                                            140737488355328 ∧
                                                                                                          List.length (rows ++ List.map (fun b => V.int IntKind.u8 ↑(UInt8.toNat b)) s21) +
                                                                                                                List.length [V.int IntKind.u8 (IntKind.wrap IntKind.u8 (Int.fdiv x28 16777216)), V.int IntKind.u8 (IntKind.wrap IntKind.u8 (Int.fdiv x28 65536)), V.int IntKind.u8 (IntKind.wrap IntKind.u8 (Int.fdiv x28 256)), V.int IntKind.u8 (IntKind.wrap IntKind.u8 x28)] +
                                                                                                              List.length (List.map (fun b => V.int IntKind.u8 ↑(UInt8.toNat b)) s34) ≤
                                                                                                            9223372036854775807) ∧
                                                                                        (True →
                                                                                          0 ≤ i ∧
                                                                                            i < ↑(List.length ls) ∧
                                                                                              ∃ s39 s40,
                                                                                                getV ls i = V.agg [V.str s39, V.str s40] ∧
                                                                                                  (List.length s40 ≤ 9223372036854775807 →
                                                                                                    ∀ (x42 : Int),
                                                                                                      x42 = ↑(List.length s40) →
                                                                                                        NoIds
                                                                                                            (rows ++ List.map (fun b => V.int IntKind.u8 ↑(UInt8.toNat b)) s21 ++
                                                                                                                [V.int IntKind.u8 (IntKind.wrap IntKind.u8 (Int.fdiv x28 16777216)), V.int IntKind.u8 (IntKind.wrap IntKind.u8 (Int.fdiv x28 65536)), V.int IntKind.u8 (IntKind.wrap IntKind.u8 (Int.fdiv x28 256)), V.int IntKind.u8 (IntKind.wrap IntKind.u8 x28)] ++
                                                                                                              List.map (fun b => V.int IntKind.u8 ↑(UInt8.toNat b)) s34) ∧
                                                                                                          List.length
                                                                                                                  (rows ++ List.map (fun b => V.int IntKind.u8 ↑(UInt8.toNat b)) s21 ++
                                                                                                                    [V.int IntKind.u8 (IntKind.wrap IntKind.u8 (Int.fdiv x28 16777216)), V.int IntKind.u8 (IntKind.wrap IntKind.u8 (Int.fdiv x28 65536)), V.int IntKind.u8 (IntKind.wrap IntKind.u8 (Int.fdiv x28 256)), V.int IntKind.u8 (IntKind.wrap IntKind.u8 x28)]) +
                                                                                                                List.length (List.map (fun b => V.int IntKind.u8 ↑(UInt8.toNat b)) s34) =
                                                                                                              List.length
                                                                                                                (rows ++ List.map (fun b => V.int IntKind.u8 ↑(UInt8.toNat b)) s21 ++
                                                                                                                    [V.int IntKind.u8 (IntKind.wrap IntKind.u8 (Int.fdiv x28 16777216)), V.int IntKind.u8 (IntKind.wrap IntKind.u8 (Int.fdiv x28 65536)), V.int IntKind.u8 (IntKind.wrap IntKind.u8 (Int.fdiv x28 256)), V.int IntKind.u8 (IntKind.wrap IntKind.u8 x28)] ++
                                                                                                                  List.map (fun b => V.int IntKind.u8 ↑(UInt8.toNat b)) s34) ∧
                                                                                                            BLs
                                                                                                                (rows ++ List.map (fun b => V.int IntKind.u8 ↑(UInt8.toNat b)) s21 ++
                                                                                                                    [V.int IntKind.u8 (IntKind.wrap IntKind.u8 (Int.fdiv x28 16777216)), V.int IntKind.u8 (IntKind.wrap IntKind.u8 (Int.fdiv x28 65536)), V.int IntKind.u8 (IntKind.wrap IntKind.u8 (Int.fdiv x28 256)), V.int IntKind.u8 (IntKind.wrap IntKind.u8 x28)] ++
                                                                                                                  List.map (fun b => V.int IntKind.u8 ↑(UInt8.toNat b)) s34) ∧
                                                                                                              List.length
                                                                                                                    (rows ++ List.map (fun b => V.int IntKind.u8 ↑(UInt8.toNat b)) s21 ++
                                                                                                                        [V.int IntKind.u8 (IntKind.wrap IntKind.u8 (Int.fdiv x28 16777216)), V.int IntKind.u8 (IntKind.wrap IntKind.u8 (Int.fdiv x28 65536)), V.int IntKind.u8 (IntKind.wrap IntKind.u8 (Int.fdiv x28 256)), V.int IntKind.u8 (IntKind.wrap IntKind.u8 x28)] ++
                                                                                                                      List.map (fun b => V.int IntKind.u8 ↑(UInt8.toNat b)) s34) ≤
                                                                                                                  1000000000 ∧
                                                                                                                0 ≤ x42 ∧
                                                                                                                  x42 ≤ 100000 ∧
                                                                                                                    ∀ (x44 : Int),
                                                                                                                      x44 = IntKind.wrap IntKind.i64 (i + 1) →
                                                                                                                        NoIds
                                                                                                                            (rows ++ List.map (fun b => V.int IntKind.u8 ↑(UInt8.toNat b)) s21 ++
                                                                                                                                  [V.int IntKind.u8 (IntKind.wrap IntKind.u8 (Int.fdiv x28 16777216)), V.int IntKind.u8 (IntKind.wrap IntKind.u8 (Int.fdiv x28 65536)), V.int IntKind.u8 (IntKind.wrap IntKind.u8 (Int.fdiv x28 256)), V.int IntKind.u8 (IntKind.wrap IntKind.u8 x28)] ++
                                                                                                                                List.map (fun b => V.int IntKind.u8 ↑(UInt8.toNat b)) s34 ++
                                                                                                                              List.replicate (Int.toNat (fillI x42)) (V.int IntKind.u8 0)) ∧
                                                                                                                          Nx
                                                                                                                            [V.list false ls,
                                                                                                                              V.sl 1004
                                                                                                                                (List.length
                                                                                                                                  (rows ++ List.map (fun b => V.int IntKind.u8 ↑(UInt8.toNat b)) s21 ++
                                                                                                                                        [V.int IntKind.u8 (IntKind.wrap IntKind.u8 (Int.fdiv x28 16777216)), V.int IntKind.u8 (IntKind.wrap IntKind.u8 (Int.fdiv x28 65536)), V.int IntKind.u8 (IntKind.wrap IntKind.u8 (Int.fdiv x28 256)), V.int IntKind.u8 (IntKind.wrap IntKind.u8 x28)] ++
                                                                                                                                      List.map (fun b => V.int IntKind.u8 ↑(UInt8.toNat b)) s34 ++
                                                                                                                                    List.replicate (Int.toNat (fillI x42)) (V.int IntKind.u8 0))),
                                                                                                                              V.int IntKind.i64 x44]
                                                                                                                            [{ arr := some 5, fz := false,
                                                                                                                                t :=
                                                                                                                                  V.agg
                                                                                                                                    (rows ++ List.map (fun b => V.int IntKind.u8 ↑(UInt8.toNat b)) s21 ++
                                                                                                                                          [V.int IntKind.u8 (IntKind.wrap IntKind.u8 (Int.fdiv x28 16777216)), V.int IntKind.u8 (IntKind.wrap IntKind.u8 (Int.fdiv x28 65536)), V.int IntKind.u8 (IntKind.wrap IntKind.u8 (Int.fdiv x28 256)), V.int IntKind.u8 (IntKind.wrap IntKind.u8 x28)] ++
                                                                                                                                        List.map (fun b => V.int IntKind.u8 ↑(UInt8.toNat b)) s34 ++
                                                                                                                                      List.replicate (Int.toNat (fillI x42)) (V.int IntKind.u8 0)) }]))))) ∧
              (x3 = false → NoIds rows ∧ Ex [V.sl 1004 (List.length rows)] [{ arr := some 5, fz := false, t := V.agg rows }])) := by kernel_rfl
theorem n16 (ls : List V) (r : V) : wC Try.prog sp16 84 noHint (prsOf [(7, [[], [], [0, 1], [], [], [3, 4], [5, 3, 4], [6, 5, 3, 4], [2, 0, 1, 7, 6, 5, 3, 4], [8, 2, 0, 1, 7, 6, 5, 3, 4], [9, 8, 2, 0, 1, 7, 6, 5, 3, 4], [9, 8, 2, 0, 1, 7, 6, 5, 3, 4], [10, 9, 8, 2, 0, 1, 7, 6, 5, 3, 4], [11, 9, 8, 2, 0, 1, 7, 6, 5, 3, 4, 12, 10]]), (10, [[], [], [], [1, 2], [3, 1, 2], [4, 3, 1, 2], [0, 5, 4, 3, 1, 2], [], [], [7, 8], [9, 7, 8], [10, 9, 7, 8], [11, 10, 9, 7, 8], [12, 11, 10, 9, 7, 8, 6, 0, 5, 4, 3, 1, 2], [6, 0, 5, 4, 3, 1, 2, 13, 12, 11, 10, 9, 7, 8], [14, 6, 0, 5, 4, 3, 1, 2, 13, 12, 11, 10, 9, 7, 8]])]) ls16 0 (bodyOf Try.f16) 1000 (initL [.list false ls] 0) [] (finK Try.prog none Try.f16.results.toList r) = (
  Int.ofNat 0 = 0 ∧
    FitC ls ∧
      sumC ls ≤ 1000000 ∧
        (mkErrR [] ls = 0 →
            ∀ (R1 : List V),
              RowsIs ls R1 →
                List.length R1 = List.length R1 ∧
                  (List.length R1 ≤ 9223372036854775807 →
                    ∀ (x4 : Int),
                      x4 = ↑(List.length R1) →
                        ∀ (x6 : Bool),
                          x6 = decide (x4 > 65524) →
                            (x6 = true → r = V.tup [V.list false [], V.int IntKind.i64 2]) ∧
                              (x6 = false →
                                (some IntKind.u8 = some IntKind.u8 ∧ 4 = List.length [V.int IntKind.u8 70, V.int IntKind.u8 79, V.int IntKind.u8 82, V.int IntKind.u8 49] ∧ 0 < 4) ∧
                                  (True →
                                    List.length R1 = List.length R1 ∧
                                      (List.length R1 ≤ 9223372036854775807 →
                                        ∀ (x12 : Int),
                                          x12 = ↑(List.length R1) →
                                            ∀ (x14 : Int),
                                              x14 = IntKind.wrap IntKind.i64 (x12 + 4) →
                                                (0 ≤ x14 ∧ x14 < 4294967296) ∧
                                                  (4 = List.length [V.int IntKind.u8 70, V.int IntKind.u8 79, V.int IntKind.u8 82, V.int IntKind.u8 49] ∧
                                                      5 = 5 ∧
                                                        ((true || false) = true ∧ True) ∧
                                                          (∀ (v16 : V), List.Mem v16 [V.int IntKind.u8 (IntKind.wrap IntKind.u8 (Int.fdiv x14 16777216)), V.int IntKind.u8 (IntKind.wrap IntKind.u8 (Int.fdiv x14 65536)), V.int IntKind.u8 (IntKind.wrap IntKind.u8 (Int.fdiv x14 256)), V.int IntKind.u8 (IntKind.wrap IntKind.u8 x14)] → V.sz v16 = 1) ∧
                                                            some 1 = some 1 ∧
                                                              true = true ∧
                                                                ∃ b18,
                                                                  some 1 = some b18 ∧
                                                                    (4 + List.length [V.int IntKind.u8 (IntKind.wrap IntKind.u8 (Int.fdiv x14 16777216)), V.int IntKind.u8 (IntKind.wrap IntKind.u8 (Int.fdiv x14 65536)), V.int IntKind.u8 (IntKind.wrap IntKind.u8 (Int.fdiv x14 256)), V.int IntKind.u8 (IntKind.wrap IntKind.u8 x14)]) * b18 ≤ 140737488355328 ∧
                                                                      4 + List.length [V.int IntKind.u8 (IntKind.wrap IntKind.u8 (Int.fdiv x14 16777216)), V.int IntKind.u8 (IntKind.wrap IntKind.u8 (Int.fdiv x14 65536)), V.int IntKind.u8 (IntKind.wrap IntKind.u8 (Int.fdiv x14 256)), V.int IntKind.u8 (IntKind.wrap IntKind.u8 x14)] ≤ 9223372036854775807) ∧
                                                    (True →
                                                      (List.length [V.int IntKind.u8 70, V.int IntKind.u8 79, V.int IntKind.u8 82, V.int IntKind.u8 49] +
                                                              List.length [V.int IntKind.u8 (IntKind.wrap IntKind.u8 (Int.fdiv x14 16777216)), V.int IntKind.u8 (IntKind.wrap IntKind.u8 (Int.fdiv x14 65536)), V.int IntKind.u8 (IntKind.wrap IntKind.u8 (Int.fdiv x14 256)), V.int IntKind.u8 (IntKind.wrap IntKind.u8 x14)] =
                                                            List.length [V.int IntKind.u8 70, V.int IntKind.u8 79, V.int IntKind.u8 82, V.int IntKind.u8 49, V.int IntKind.u8 (IntKind.wrap IntKind.u8 (Int.fdiv x14 16777216)), V.int IntKind.u8 (IntKind.wrap IntKind.u8 (Int.fdiv x14 65536)), V.int IntKind.u8 (IntKind.wrap IntKind.u8 (Int.fdiv x14 256)), V.int IntKind.u8 (IntKind.wrap IntKind.u8 x14)] ∧
                                                          5 = 5 ∧
                                                            ((false || true) = true ∧ True) ∧
                                                              (∀ (v20 : V), List.Mem v20 [V.int IntKind.u8 ↑66, V.int IntKind.u8 ↑69, V.int IntKind.u8 ↑65, V.int IntKind.u8 ↑77] → V.sz v20 = 1) ∧
                                                                some 1 = some 1 ∧
                                                                  true = true ∧
                                                                    ∃ b22,
                                                                      some 1 = some b22 ∧
                                                                        (List.length [V.int IntKind.u8 70, V.int IntKind.u8 79, V.int IntKind.u8 82, V.int IntKind.u8 49] +
                                                                                  List.length [V.int IntKind.u8 (IntKind.wrap IntKind.u8 (Int.fdiv x14 16777216)), V.int IntKind.u8 (IntKind.wrap IntKind.u8 (Int.fdiv x14 65536)), V.int IntKind.u8 (IntKind.wrap IntKind.u8 (Int.fdiv x14 256)), V.int IntKind.u8 (IntKind.wrap IntKind.u8 x14)] +
                                                                                List.length [V.int IntKind.u8 ↑66, V.int IntKind.u8 ↑69, V.int IntKind.u8 ↑65, V.int IntKind.u8 ↑77]) *
                                                                              b22 ≤
                                                                            140737488355328 ∧
                                                                          List.length [V.int IntKind.u8 70, V.int IntKind.u8 79, V.int IntKind.u8 82, V.int IntKind.u8 49] +
                                                                                List.length [V.int IntKind.u8 (IntKind.wrap IntKind.u8 (Int.fdiv x14 16777216)), V.int IntKind.u8 (IntKind.wrap IntKind.u8 (Int.fdiv x14 65536)), V.int IntKind.u8 (IntKind.wrap IntKind.u8 (Int.fdiv x14 256)), V.int IntKind.u8 (IntKind.wrap IntKind.u8 x14)] +
                                                                              List.length [V.int IntKind.u8 ↑66, V.int IntKind.u8 ↑69, V.int IntKind.u8 ↑65, V.int IntKind.u8 ↑77] ≤
                                                                            9223372036854775807) ∧
                                                        (True →
                                                          (List.length [V.int IntKind.u8 70, V.int IntKind.u8 79, V.int IntKind.u8 82, V.int IntKind.u8 49, V.int IntKind.u8 (IntKind.wrap IntKind.u8 (Int.fdiv x14 16777216)), V.int IntKind.u8 (IntKind.wrap IntKind.u8 (Int.fdiv x14 65536)), V.int IntKind.u8 (IntKind.wrap IntKind.u8 (Int.fdiv x14 256)), V.int IntKind.u8 (IntKind.wrap IntKind.u8 x14)] +
                                                                  List.length [V.int IntKind.u8 ↑66, V.int IntKind.u8 ↑69, V.int IntKind.u8 ↑65, V.int IntKind.u8 ↑77] =
                                                                List.length
                                                                  [V.int IntKind.u8 70, V.int IntKind.u8 79, V.int IntKind.u8 82, V.int IntKind.u8 49, V.int IntKind.u8 (IntKind.wrap IntKind.u8 (Int.fdiv x14 16777216)), V.int IntKind.u8 (IntKind.wrap IntKind.u8 (Int.fdiv x14 65536)), V.int IntKind.u8 (IntKind.wrap IntKind.u8 (Int.fdiv x14 256)), V.int IntKind.u8 (IntKind.wrap IntKind.u8 x14),
                                                                    V.int IntKind.u8 ↑66, V.int IntKind.u8 ↑69, V.int IntKind.u8 ↑65, V.int IntKind.u8 ↑77] ∧
                                                              5 = 5 ∧
                                                                ((true || false) = true ∧ List.length R1 = List.length R1) ∧
                                                                  (∀ (v24 : V), List.Mem v24 R1 → V.sz v24 = 1) ∧
                                                                    some 1 = some 1 ∧
                                                                      true = true ∧
                                                                        ∃ b26,
                                                                          some 1 = some b26 ∧
                                                                            (List.length
                                                                                        [V.int IntKind.u8 70, V.int IntKind.u8 79, V.int IntKind.u8 82, V.int IntKind.u8 49, V.int IntKind.u8 (IntKind.wrap IntKind.u8 (Int.fdiv x14 16777216)), V.int IntKind.u8 (IntKind.wrap IntKind.u8 (Int.fdiv x14 65536)), V.int IntKind.u8 (IntKind.wrap IntKind.u8 (Int.fdiv x14 256)),
                                                                                          V.int IntKind.u8 (IntKind.wrap IntKind.u8 x14)] +
                                                                                      List.length [V.int IntKind.u8 ↑66, V.int IntKind.u8 ↑69, V.int IntKind.u8 ↑65, V.int IntKind.u8 ↑77] +
                                                                                    List.length R1) *
                                                                                  b26 ≤
                                                                                140737488355328 ∧
                                                                              List.length
                                                                                      [V.int IntKind.u8 70, V.int IntKind.u8 79, V.int IntKind.u8 82, V.int IntKind.u8 49, V.int IntKind.u8 (IntKind.wrap IntKind.u8 (Int.fdiv x14 16777216)), V.int IntKind.u8 (IntKind.wrap IntKind.u8 (Int.fdiv x14 65536)), V.int IntKind.u8 (IntKind.wrap IntKind.u8 (Int.fdiv x14 256)),
                                                                                        V.int IntKind.u8 (IntKind.wrap IntKind.u8 x14)] +
                                                                                    List.length [V.int IntKind.u8 ↑66, V.int IntKind.u8 ↑69, V.int IntKind.u8 ↑65, V.int IntKind.u8 ↑77] +
                                                                                  List.length R1 ≤
                                                                                9223372036854775807) ∧
                                                            (True →
                                                              List.length
                                                                      [V.int IntKind.u8 70, V.int IntKind.u8 79, V.int IntKind.u8 82, V.int IntKind.u8 49, V.int IntKind.u8 (IntKind.wrap IntKind.u8 (Int.fdiv x14 16777216)), V.int IntKind.u8 (IntKind.wrap IntKind.u8 (Int.fdiv x14 65536)), V.int IntKind.u8 (IntKind.wrap IntKind.u8 (Int.fdiv x14 256)), V.int IntKind.u8 (IntKind.wrap IntKind.u8 x14),
                                                                        V.int IntKind.u8 ↑66, V.int IntKind.u8 ↑69, V.int IntKind.u8 ↑65, V.int IntKind.u8 ↑77] +
                                                                    List.length R1 =
                                                                  List.length
                                                                    (V.int IntKind.u8 70 ::
                                                                      V.int IntKind.u8 79 ::
                                                                        V.int IntKind.u8 82 ::
                                                                          V.int IntKind.u8 49 ::
                                                                            V.int IntKind.u8 (IntKind.wrap IntKind.u8 (Int.fdiv x14 16777216)) ::
                                                                              V.int IntKind.u8 (IntKind.wrap IntKind.u8 (Int.fdiv x14 65536)) :: V.int IntKind.u8 (IntKind.wrap IntKind.u8 (Int.fdiv x14 256)) :: V.int IntKind.u8 (IntKind.wrap IntKind.u8 x14) :: V.int IntKind.u8 ↑66 :: V.int IntKind.u8 ↑69 :: V.int IntKind.u8 ↑65 :: V.int IntKind.u8 ↑77 :: R1) ∧
                                                                r =
                                                                  V.tup
                                                                    [V.list false
                                                                        (V.int IntKind.u8 70 ::
                                                                          V.int IntKind.u8 79 ::
                                                                            V.int IntKind.u8 82 ::
                                                                              V.int IntKind.u8 49 ::
                                                                                V.int IntKind.u8 (IntKind.wrap IntKind.u8 (Int.fdiv x14 16777216)) ::
                                                                                  V.int IntKind.u8 (IntKind.wrap IntKind.u8 (Int.fdiv x14 65536)) :: V.int IntKind.u8 (IntKind.wrap IntKind.u8 (Int.fdiv x14 256)) :: V.int IntKind.u8 (IntKind.wrap IntKind.u8 x14) :: V.int IntKind.u8 ↑66 :: V.int IntKind.u8 ↑69 :: V.int IntKind.u8 ↑65 :: V.int IntKind.u8 ↑77 :: R1),
                                                                      V.int IntKind.i64 0])))))))) ∧
          (mkErrR [] ls ≠ 0 → r = V.tup [V.list false [], V.int IntKind.i64 (mkErrR [] ls)])) := by kernel_rfl
theorem n6 (vs ls : List V) (s : List UInt8) (r : V) : wC Try.prog sp6 95 noHint (prsOf []) noLs 0 (bodyOf Try.f6) 1000 (initL [.list false vs, .list false ls, .str s] 0) [] (finK Try.prog none Try.f6.results.toList r) = (
  List.length vs ≤ 9223372036854775807 →
    ∀ (x1 : Int),
      x1 = ↑(List.length vs) →
        ∀ (x3 : Bool),
          x3 = decide (x1 > 70000) →
            (x3 = true → r = V.bool true) ∧
              (x3 = false →
                CLs ls ∧
                  ∀ (x7 : Bool),
                    x7 = !decJ (fewP ls) →
                      (x7 = true → r = V.bool true) ∧
                        (x7 = false →
                          (BLs vs ∧ List.length vs ≤ 1000000) ∧
                            BLs vs ∧
                              ∀ (l11 : List V) (e12 : Int),
                                parseS vs = (l11, e12) →
                                  BLs vs ∧
                                    ∀ (l14 : List V) (e15 : Int),
                                      parseS vs = (l14, e15) →
                                        (((true || false) = true ∧ True) ∧ (∀ (v17 : V), List.Mem v17 ls → V.sz v17 = 2) ∧ some 2 = some 2 ∧ true = true ∧ ∃ b19, some 32 = some b19 ∧ List.length ls * b19 ≤ 140737488355328 ∧ List.length ls ≤ 9223372036854775807) ∧
                                          (True →
                                            List.length ls = List.length ls ∧
                                              FitC ls ∧
                                                (mkE ls = 0 →
                                                    ∀ (rows22 : List V),
                                                      rows22 =
                                                          V.int IntKind.u8 70 ::
                                                            V.int IntKind.u8 79 ::
                                                              V.int IntKind.u8 82 ::
                                                                V.int IntKind.u8 49 ::
                                                                  V.int IntKind.u8 (IntKind.wrap IntKind.u8 (Int.fdiv (4 + sumC ls) 16777216)) ::
                                                                    V.int IntKind.u8 (IntKind.wrap IntKind.u8 (Int.fdiv (4 + sumC ls) 65536)) :: V.int IntKind.u8 (IntKind.wrap IntKind.u8 (Int.fdiv (4 + sumC ls) 256)) :: V.int IntKind.u8 (IntKind.wrap IntKind.u8 (4 + sumC ls)) :: V.int IntKind.u8 66 :: V.int IntKind.u8 69 :: V.int IntKind.u8 65 :: V.int IntKind.u8 77 :: mkRows ls →
                                                        FitC ls ∧
                                                          sumC ls ≤ 1000000 ∧
                                                            (mkE ls = 0 →
                                                                ∀ (rows25 : List V),
                                                                  rows25 =
                                                                      V.int IntKind.u8 70 ::
                                                                        V.int IntKind.u8 79 ::
                                                                          V.int IntKind.u8 82 ::
                                                                            V.int IntKind.u8 49 ::
                                                                              V.int IntKind.u8 (IntKind.wrap IntKind.u8 (Int.fdiv (4 + sumC ls) 16777216)) ::
                                                                                V.int IntKind.u8 (IntKind.wrap IntKind.u8 (Int.fdiv (4 + sumC ls) 65536)) :: V.int IntKind.u8 (IntKind.wrap IntKind.u8 (Int.fdiv (4 + sumC ls) 256)) :: V.int IntKind.u8 (IntKind.wrap IntKind.u8 (4 + sumC ls)) :: V.int IntKind.u8 66 :: V.int IntKind.u8 69 :: V.int IntKind.u8 65 :: V.int IntKind.u8 77 :: mkRows ls →
                                                                    CLs ls ∧
                                                                      ∀ (d27 : List UInt8) (b28 : Bool),
                                                                        findS s ls = (d27, b28) →
                                                                          CLs ls ∧
                                                                            ∀ (d30 : List UInt8) (b31 : Bool),
                                                                              findS s ls = (d30, b31) →
                                                                                (CLs l11 ∧ CLs l14) ∧
                                                                                  (decJ (l11 = l14) = true →
                                                                                      ∀ (x34 : Bool),
                                                                                        x34 = (e12 == e15) →
                                                                                          (x34 = true →
                                                                                              (some IntKind.u8 = some IntKind.u8 ∧ some 1 = some 1 ∧ true = true ∧ List.length rows22 = List.length rows22 ∧ ∀ (v37 : V), List.Mem v37 rows22 → isByte v37) ∧
                                                                                                (True →
                                                                                                  ∀ (x40 : List UInt8),
                                                                                                    x40 = List.map byteV rows22 →
                                                                                                      (some IntKind.u8 = some IntKind.u8 ∧ some 1 = some 1 ∧ true = true ∧ True ∧ V.list false rows25 ≠ V.junk ∧ ∀ (v42 : V), List.Mem v42 rows25 → isByte v42) ∧
                                                                                                        (True →
                                                                                                          ∀ (x45 : List UInt8),
                                                                                                            x45 = List.map byteV rows25 →
                                                                                                              ∀ (x47 : Bool),
                                                                                                                x47 = (x40 == x45) →
                                                                                                                  (x47 = true →
                                                                                                                      ∀ (x50 : Bool), x50 = (0 == 0) → (x50 = true → ∀ (x53 : Bool), x53 = (d27 == d30) → (x53 = true → ∀ (x56 : Bool), x56 = (b28 == b31) → (x56 = true → r = V.bool true) ∧ (x56 = false → r = V.bool false)) ∧ (x53 = false → r = V.bool false)) ∧ (x50 = false → r = V.bool false)) ∧
                                                                                                                    (x47 = false → r = V.bool false)))) ∧
                                                                                            (x34 = false → r = V.bool false)) ∧
                                                                                    (decJ (l11 = l14) = false → r = V.bool false)) ∧
                                                              ∀ (e65 : Int),
                                                                e65 = mkE ls →
                                                                  e65 ≠ 0 →
                                                                    CLs ls ∧
                                                                      ∀ (d68 : List UInt8) (b69 : Bool),
                                                                        findS s ls = (d68, b69) →
                                                                          CLs ls ∧
                                                                            ∀ (d71 : List UInt8) (b72 : Bool),
                                                                              findS s ls = (d71, b72) →
                                                                                (CLs l11 ∧ CLs l14) ∧
                                                                                  (decJ (l11 = l14) = true →
                                                                                      ∀ (x75 : Bool),
                                                                                        x75 = (e12 == e15) →
                                                                                          (x75 = true →
                                                                                              (some IntKind.u8 = some IntKind.u8 ∧ some 1 = some 1 ∧ true = true ∧ List.length rows22 = List.length rows22 ∧ ∀ (v78 : V), List.Mem v78 rows22 → isByte v78) ∧
                                                                                                (True →
                                                                                                  ∀ (x81 : List UInt8),
                                                                                                    x81 = List.map byteV rows22 →
                                                                                                      (some IntKind.u8 = some IntKind.u8 ∧ some 1 = some 1 ∧ true = true ∧ True ∧ V.list false [] ≠ V.junk ∧ ∀ (v83 : V), List.Mem v83 [] → isByte v83) ∧
                                                                                                        (True →
                                                                                                          ∀ (x86 : List UInt8),
                                                                                                            x86 = [] →
                                                                                                              ∀ (x88 : Bool),
                                                                                                                x88 = (x81 == x86) →
                                                                                                                  (x88 = true →
                                                                                                                      ∀ (x91 : Bool), x91 = (0 == e65) → (x91 = true → ∀ (x94 : Bool), x94 = (d68 == d71) → (x94 = true → ∀ (x97 : Bool), x97 = (b69 == b72) → (x97 = true → r = V.bool true) ∧ (x97 = false → r = V.bool false)) ∧ (x94 = false → r = V.bool false)) ∧ (x91 = false → r = V.bool false)) ∧
                                                                                                                    (x88 = false → r = V.bool false)))) ∧
                                                                                            (x75 = false → r = V.bool false)) ∧
                                                                                    (decJ (l11 = l14) = false → r = V.bool false)) ∧
                                                  ∀ (e106 : Int),
                                                    e106 = mkE ls →
                                                      e106 ≠ 0 →
                                                        FitC ls ∧
                                                          sumC ls ≤ 1000000 ∧
                                                            (mkE ls = 0 →
                                                                ∀ (rows110 : List V),
                                                                  rows110 =
                                                                      V.int IntKind.u8 70 ::
                                                                        V.int IntKind.u8 79 ::
                                                                          V.int IntKind.u8 82 ::
                                                                            V.int IntKind.u8 49 ::
                                                                              V.int IntKind.u8 (IntKind.wrap IntKind.u8 (Int.fdiv (4 + sumC ls) 16777216)) ::
                                                                                V.int IntKind.u8 (IntKind.wrap IntKind.u8 (Int.fdiv (4 + sumC ls) 65536)) :: V.int IntKind.u8 (IntKind.wrap IntKind.u8 (Int.fdiv (4 + sumC ls) 256)) :: V.int IntKind.u8 (IntKind.wrap IntKind.u8 (4 + sumC ls)) :: V.int IntKind.u8 66 :: V.int IntKind.u8 69 :: V.int IntKind.u8 65 :: V.int IntKind.u8 77 :: mkRows ls →
                                                                    CLs ls ∧
                                                                      ∀ (d112 : List UInt8) (b113 : Bool),
                                                                        findS s ls = (d112, b113) →
                                                                          CLs ls ∧
                                                                            ∀ (d115 : List UInt8) (b116 : Bool),
                                                                              findS s ls = (d115, b116) →
                                                                                (CLs l11 ∧ CLs l14) ∧
                                                                                  (decJ (l11 = l14) = true →
                                                                                      ∀ (x119 : Bool),
                                                                                        x119 = (e12 == e15) →
                                                                                          (x119 = true →
                                                                                              (some IntKind.u8 = some IntKind.u8 ∧ some 1 = some 1 ∧ true = true ∧ True ∧ V.nils ≠ V.junk ∧ ∀ (v122 : V), List.Mem v122 [] → isByte v122) ∧
                                                                                                (True →
                                                                                                  ∀ (x125 : List UInt8),
                                                                                                    x125 = [] →
                                                                                                      (some IntKind.u8 = some IntKind.u8 ∧ some 1 = some 1 ∧ true = true ∧ True ∧ V.list false rows110 ≠ V.junk ∧ ∀ (v127 : V), List.Mem v127 rows110 → isByte v127) ∧
                                                                                                        (True →
                                                                                                          ∀ (x130 : List UInt8),
                                                                                                            x130 = List.map byteV rows110 →
                                                                                                              ∀ (x132 : Bool),
                                                                                                                x132 = (x125 == x130) →
                                                                                                                  (x132 = true →
                                                                                                                      ∀ (x135 : Bool),
                                                                                                                        x135 = (e106 == 0) → (x135 = true → ∀ (x138 : Bool), x138 = (d112 == d115) → (x138 = true → ∀ (x141 : Bool), x141 = (b113 == b116) → (x141 = true → r = V.bool true) ∧ (x141 = false → r = V.bool false)) ∧ (x138 = false → r = V.bool false)) ∧ (x135 = false → r = V.bool false)) ∧
                                                                                                                    (x132 = false → r = V.bool false)))) ∧
                                                                                            (x119 = false → r = V.bool false)) ∧
                                                                                    (decJ (l11 = l14) = false → r = V.bool false)) ∧
                                                              ∀ (e150 : Int),
                                                                e150 = mkE ls →
                                                                  e150 ≠ 0 →
                                                                    CLs ls ∧
                                                                      ∀ (d153 : List UInt8) (b154 : Bool),
                                                                        findS s ls = (d153, b154) →
                                                                          CLs ls ∧
                                                                            ∀ (d156 : List UInt8) (b157 : Bool),
                                                                              findS s ls = (d156, b157) →
                                                                                (CLs l11 ∧ CLs l14) ∧
                                                                                  (decJ (l11 = l14) = true →
                                                                                      ∀ (x160 : Bool),
                                                                                        x160 = (e12 == e15) →
                                                                                          (x160 = true →
                                                                                              (some IntKind.u8 = some IntKind.u8 ∧ some 1 = some 1 ∧ true = true ∧ True ∧ V.nils ≠ V.junk ∧ ∀ (v163 : V), List.Mem v163 [] → isByte v163) ∧
                                                                                                (True →
                                                                                                  ∀ (x166 : List UInt8),
                                                                                                    x166 = [] →
                                                                                                      (some IntKind.u8 = some IntKind.u8 ∧ some 1 = some 1 ∧ true = true ∧ True ∧ V.list false [] ≠ V.junk ∧ ∀ (v168 : V), List.Mem v168 [] → isByte v168) ∧
                                                                                                        (True →
                                                                                                          ∀ (x171 : List UInt8),
                                                                                                            x171 = [] →
                                                                                                              ∀ (x173 : Bool),
                                                                                                                x173 = (x166 == x171) →
                                                                                                                  (x173 = true →
                                                                                                                      ∀ (x176 : Bool),
                                                                                                                        x176 = (e106 == e150) → (x176 = true → ∀ (x179 : Bool), x179 = (d153 == d156) → (x179 = true → ∀ (x182 : Bool), x182 = (b154 == b157) → (x182 = true → r = V.bool true) ∧ (x182 = false → r = V.bool false)) ∧ (x179 = false → r = V.bool false)) ∧ (x176 = false → r = V.bool false)) ∧
                                                                                                                    (x173 = false → r = V.bool false)))) ∧
                                                                                            (x160 = false → r = V.bool false)) ∧
                                                                                    (decJ (l11 = l14) = false → r = V.bool false))))) := by kernel_rfl
end GoL
