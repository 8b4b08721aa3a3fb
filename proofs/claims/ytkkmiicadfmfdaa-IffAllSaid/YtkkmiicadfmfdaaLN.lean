/- A part of the proof: a logic for programs of this kind, proved sound over the model; contracts of functions; plain laws. -/
import Derived.Test.YtkkmiicadfmfdaaLD
set_option linter.all false
open Go Go.Proofs
namespace GoL
set_option linter.unusedVariables false
set_option maxRecDepth 100000
theorem nl10_0 (ls : List V) (n m i : Int) (Nx Ex Rt : List V → List Blk → Prop) : wC Try.prog sp10 74 noHint (prsOf [(7, [[], [], [0, 1], [], [3], [2, 0, 1, 4, 3], [5, 2, 0, 1, 4, 3]]), (9, [[], [], [1], [2, 1], [3, 2, 1], [], [5], [6, 5], [7, 6, 5], [4, 3, 2, 1, 8, 7, 6, 5], [0, 9, 4, 3, 2, 1, 8, 7, 6, 5], [10, 0, 9, 4, 3, 2, 1, 8, 7, 6, 5]]), (17, [[], [], [1], [0, 2, 1], [], [4], [5, 4], [3, 0, 2, 1, 6, 5, 4], [], [8], [7, 3, 0, 2, 1, 6, 5, 4, 9, 8], [10, 7, 3, 0, 2, 1, 6, 5, 4, 9, 8]])]) noLs 0 (lcode Try.f10 0).2 1006 (List.zip [0, 4, 10, 11, 12] [.list false ls, .int .i64 n, .list false ls, .int .i64 m, .int .i64 i]) (List.zip [] []) (endK ends10_0 Nx Ex Rt) = (
  ∀ (x0 : Bool),
    x0 = decide (i < m) →
      (x0 = true →
          0 ≤ i ∧
            i < ↑(List.length ls) ∧
              ∃ s3 s4,
                getV ls i = V.agg [V.str s3, V.str s4] ∧
                  ∀ (x5 : Bool),
                    x5 = !namedS s3 →
                      (x5 = true → Rt [V.nils, V.int IntKind.i64 1] []) ∧
                        (x5 = false →
                          (True ∧ false = false ∧ True ∧ True ∧ True ∧ ((none : Option V) ≠ none → some (V.int IntKind.i64 i) ≠ none ∧ Int.ofNat 0 = i) ∧ 0 ≤ Int.ofNat 0 ∧ Int.ofNat 0 ≤ i ∧ i ≤ ↑(List.length ls) ∧ some 2 = some 2 ∧ ∀ (v10 : V), List.Mem v10 ls → V.sz v10 = 2) ∧
                            ∀ (x12 : List V),
                              x12 = List.take (Int.toNat (i - Int.ofNat 0)) ls →
                                CLs x12 ∧
                                  (hasS x12 s3 = true → Rt [V.nils, V.int IntKind.i64 6] []) ∧
                                    (hasS x12 s3 = false →
                                      ∀ (x16 : Int),
                                        x16 = ↑(List.length s4) →
                                          ∀ (x18 : Int),
                                            x18 = IntKind.wrap IntKind.i64 (8 + x16) →
                                              ∀ (x20 : Int),
                                                x20 = ↑(List.length s4) →
                                                  (0 ≤ x20 ∧ x20 ≤ 4611686018427387904) ∧
                                                    ∀ (x22 : Int), x22 = fillI x20 → ∀ (x24 : Int), x24 = IntKind.wrap IntKind.i64 (x18 + x22) → ∀ (x26 : Int), x26 = IntKind.wrap IntKind.i64 (n + x24) → ∀ (x28 : Int), x28 = IntKind.wrap IntKind.i64 (i + 1) → Nx [V.list false ls, V.int IntKind.i64 x26, V.list false ls, V.int IntKind.i64 m, V.int IntKind.i64 x28] []))) ∧
        (x0 = false → Ex [V.list false ls, V.int IntKind.i64 n] [])) := by kernel_rfl
theorem nl10_1 (ls rows : List V) (m i : Int) (Nx Ex Rt : List V → List Blk → Prop) : wC Try.prog sp10 74 noHint (prsOf [(7, [[], [], [0, 1], [], [3], [2, 0, 1, 4, 3], [5, 2, 0, 1, 4, 3]]), (9, [[], [], [1], [2, 1], [3, 2, 1], [], [5], [6, 5], [7, 6, 5], [4, 3, 2, 1, 8, 7, 6, 5], [0, 9, 4, 3, 2, 1, 8, 7, 6, 5], [10, 0, 9, 4, 3, 2, 1, 8, 7, 6, 5]]), (17, [[], [], [1], [0, 2, 1], [], [4], [5, 4], [3, 0, 2, 1, 6, 5, 4], [], [8], [7, 3, 0, 2, 1, 6, 5, 4, 9, 8], [10, 7, 3, 0, 2, 1, 6, 5, 4, 9, 8]])]) noLs 3 (lcode Try.f10 1).2 1018 (List.zip [7, 49, 50, 51] [.sl 1008 rows.length, .list false ls, .int .i64 m, .int .i64 i]) (List.zip [1008] [⟨some 5, false, .agg rows⟩]) (endK ends10_1 Nx Ex Rt) = (
  ∀ (x0 : Bool),
    x0 = decide (i < m) →
      (x0 = true →
          0 ≤ i ∧
            i < ↑(List.length ls) ∧
              ∃ s3 s4,
                getV ls i = V.agg [V.str s3, V.str s4] ∧
                  (List.length rows = List.length rows ∧
                      5 = 5 ∧
                        ((false || true) = true ∧ True) ∧
                          (∀ (v5 : V), List.Mem v5 (List.map (fun b => V.int IntKind.u8 ↑(UInt8.toNat b)) s3) → V.sz v5 = 1) ∧
                            some 1 = some 1 ∧ true = true ∧ ∃ b7, some 1 = some b7 ∧ (List.length rows + List.length (List.map (fun b => V.int IntKind.u8 ↑(UInt8.toNat b)) s3)) * b7 ≤ 140737488355328 ∧ List.length rows + List.length (List.map (fun b => V.int IntKind.u8 ↑(UInt8.toNat b)) s3) ≤ 9223372036854775807) ∧
                    ∀ (x8 : Int),
                      x8 = ↑(List.length s4) →
                        (List.length rows + List.length (List.map (fun b => V.int IntKind.u8 ↑(UInt8.toNat b)) s3) = List.length (rows ++ List.map (fun b => V.int IntKind.u8 ↑(UInt8.toNat b)) s3) ∧ BLs (rows ++ List.map (fun b => V.int IntKind.u8 ↑(UInt8.toNat b)) s3) ∧ List.length (rows ++ List.map (fun b => V.int IntKind.u8 ↑(UInt8.toNat b)) s3) ≤ 1000000000) ∧
                          (List.length (rows ++ List.map (fun b => V.int IntKind.u8 ↑(UInt8.toNat b)) s3) + 4 =
                                List.length (rows ++ List.map (fun b => V.int IntKind.u8 ↑(UInt8.toNat b)) s3 ++ [V.int IntKind.u8 (IntKind.wrap IntKind.u8 (Int.fdiv x8 16777216)), V.int IntKind.u8 (IntKind.wrap IntKind.u8 (Int.fdiv x8 65536)), V.int IntKind.u8 (IntKind.wrap IntKind.u8 (Int.fdiv x8 256)), V.int IntKind.u8 (IntKind.wrap IntKind.u8 x8)]) ∧
                              5 = 5 ∧
                                ((false || true) = true ∧ True) ∧
                                  (∀ (v10 : V), List.Mem v10 (List.map (fun b => V.int IntKind.u8 ↑(UInt8.toNat b)) s4) → V.sz v10 = 1) ∧
                                    some 1 = some 1 ∧
                                      true = true ∧
                                        ∃ b12,
                                          some 1 = some b12 ∧
                                            (List.length (rows ++ List.map (fun b => V.int IntKind.u8 ↑(UInt8.toNat b)) s3) + 4 + List.length (List.map (fun b => V.int IntKind.u8 ↑(UInt8.toNat b)) s4)) * b12 ≤ 140737488355328 ∧
                                              List.length (rows ++ List.map (fun b => V.int IntKind.u8 ↑(UInt8.toNat b)) s3) + 4 + List.length (List.map (fun b => V.int IntKind.u8 ↑(UInt8.toNat b)) s4) ≤ 9223372036854775807) ∧
                            (List.length s4 ≤ 9223372036854775807 →
                              ∀ (x14 : Int),
                                x14 = ↑(List.length s4) →
                                  (0 ≤ x14 ∧ x14 ≤ 4611686018427387904) ∧
                                    ∀ (x16 : Int),
                                      x16 = fillI x14 →
                                        (List.length (rows ++ List.map (fun b => V.int IntKind.u8 ↑(UInt8.toNat b)) s3 ++ [V.int IntKind.u8 (IntKind.wrap IntKind.u8 (Int.fdiv x8 16777216)), V.int IntKind.u8 (IntKind.wrap IntKind.u8 (Int.fdiv x8 65536)), V.int IntKind.u8 (IntKind.wrap IntKind.u8 (Int.fdiv x8 256)), V.int IntKind.u8 (IntKind.wrap IntKind.u8 x8)]) +
                                                List.length (List.map (fun b => V.int IntKind.u8 ↑(UInt8.toNat b)) s4) =
                                              List.length
                                                (rows ++ List.map (fun b => V.int IntKind.u8 ↑(UInt8.toNat b)) s3 ++ [V.int IntKind.u8 (IntKind.wrap IntKind.u8 (Int.fdiv x8 16777216)), V.int IntKind.u8 (IntKind.wrap IntKind.u8 (Int.fdiv x8 65536)), V.int IntKind.u8 (IntKind.wrap IntKind.u8 (Int.fdiv x8 256)), V.int IntKind.u8 (IntKind.wrap IntKind.u8 x8)] ++
                                                  List.map (fun b => V.int IntKind.u8 ↑(UInt8.toNat b)) s4) ∧
                                            5 = 5 ∧
                                              (0 ≤ x16 ∧ x16 ≤ ↑9223372036854775807) ∧
                                                (∀ (v18 : V), List.Mem v18 (List.replicate (Int.toNat x16) (V.int IntKind.u8 0)) → V.sz v18 = 1) ∧
                                                  some 1 = some 1 ∧
                                                    true = true ∧
                                                      ∃ b20,
                                                        some 1 = some b20 ∧
                                                          (List.length (rows ++ List.map (fun b => V.int IntKind.u8 ↑(UInt8.toNat b)) s3 ++ [V.int IntKind.u8 (IntKind.wrap IntKind.u8 (Int.fdiv x8 16777216)), V.int IntKind.u8 (IntKind.wrap IntKind.u8 (Int.fdiv x8 65536)), V.int IntKind.u8 (IntKind.wrap IntKind.u8 (Int.fdiv x8 256)), V.int IntKind.u8 (IntKind.wrap IntKind.u8 x8)]) +
                                                                    List.length (List.map (fun b => V.int IntKind.u8 ↑(UInt8.toNat b)) s4) +
                                                                  List.length (List.replicate (Int.toNat x16) (V.int IntKind.u8 0))) *
                                                                b20 ≤
                                                              140737488355328 ∧
                                                            List.length (rows ++ List.map (fun b => V.int IntKind.u8 ↑(UInt8.toNat b)) s3 ++ [V.int IntKind.u8 (IntKind.wrap IntKind.u8 (Int.fdiv x8 16777216)), V.int IntKind.u8 (IntKind.wrap IntKind.u8 (Int.fdiv x8 65536)), V.int IntKind.u8 (IntKind.wrap IntKind.u8 (Int.fdiv x8 256)), V.int IntKind.u8 (IntKind.wrap IntKind.u8 x8)]) +
                                                                  List.length (List.map (fun b => V.int IntKind.u8 ↑(UInt8.toNat b)) s4) +
                                                                List.length (List.replicate (Int.toNat x16) (V.int IntKind.u8 0)) ≤
                                                              9223372036854775807) ∧
                                          (True →
                                            ∀ (x22 : Int),
                                              x22 = IntKind.wrap IntKind.i64 (i + 1) →
                                                NoIds
                                                    (rows ++ List.map (fun b => V.int IntKind.u8 ↑(UInt8.toNat b)) s3 ++ [V.int IntKind.u8 (IntKind.wrap IntKind.u8 (Int.fdiv x8 16777216)), V.int IntKind.u8 (IntKind.wrap IntKind.u8 (Int.fdiv x8 65536)), V.int IntKind.u8 (IntKind.wrap IntKind.u8 (Int.fdiv x8 256)), V.int IntKind.u8 (IntKind.wrap IntKind.u8 x8)] ++
                                                        List.map (fun b => V.int IntKind.u8 ↑(UInt8.toNat b)) s4 ++
                                                      List.replicate (Int.toNat x16) (V.int IntKind.u8 0)) ∧
                                                  Nx
                                                    [V.sl 1008
                                                        (List.length
                                                            (rows ++ List.map (fun b => V.int IntKind.u8 ↑(UInt8.toNat b)) s3 ++ [V.int IntKind.u8 (IntKind.wrap IntKind.u8 (Int.fdiv x8 16777216)), V.int IntKind.u8 (IntKind.wrap IntKind.u8 (Int.fdiv x8 65536)), V.int IntKind.u8 (IntKind.wrap IntKind.u8 (Int.fdiv x8 256)), V.int IntKind.u8 (IntKind.wrap IntKind.u8 x8)] ++
                                                              List.map (fun b => V.int IntKind.u8 ↑(UInt8.toNat b)) s4) +
                                                          List.length (List.replicate (Int.toNat x16) (V.int IntKind.u8 0))),
                                                      V.list false ls, V.int IntKind.i64 m, V.int IntKind.i64 x22]
                                                    [{ arr := some 5, fz := false,
                                                        t :=
                                                          V.agg
                                                            (rows ++ List.map (fun b => V.int IntKind.u8 ↑(UInt8.toNat b)) s3 ++ [V.int IntKind.u8 (IntKind.wrap IntKind.u8 (Int.fdiv x8 16777216)), V.int IntKind.u8 (IntKind.wrap IntKind.u8 (Int.fdiv x8 65536)), V.int IntKind.u8 (IntKind.wrap IntKind.u8 (Int.fdiv x8 256)), V.int IntKind.u8 (IntKind.wrap IntKind.u8 x8)] ++
                                                                List.map (fun b => V.int IntKind.u8 ↑(UInt8.toNat b)) s4 ++
                                                              List.replicate (Int.toNat x16) (V.int IntKind.u8 0)) }]))) ∧
        (x0 = false → NoIds rows ∧ Ex [V.sl 1008 (List.length rows)] [{ arr := some 5, fz := false, t := V.agg rows }])) := by kernel_rfl
theorem n10s (ls : List V) (r : V) (ks : List Blk) : wC Try.prog sp10 74 noHint (prsOf [(7, [[], [], [0, 1], [], [3], [2, 0, 1, 4, 3], [5, 2, 0, 1, 4, 3]]), (9, [[], [], [1], [2, 1], [3, 2, 1], [], [5], [6, 5], [7, 6, 5], [4, 3, 2, 1, 8, 7, 6, 5], [0, 9, 4, 3, 2, 1, 8, 7, 6, 5], [10, 0, 9, 4, 3, 2, 1, 8, 7, 6, 5]]), (17, [[], [], [1], [0, 2, 1], [], [4], [5, 4], [3, 0, 2, 1, 6, 5, 4], [], [8], [7, 3, 0, 2, 1, 6, 5, 4, 9, 8], [10, 7, 3, 0, 2, 1, 6, 5, 4, 9, 8]])]) ls10 0 (bodyOf Try.f10) 1000 (initL [.list false ls] 0) [] (finH Try.prog none Try.f10.results.toList [1008] fun v bs => r = v ∧ ks = bs) = (
  List.length ls ≤ 9223372036854775807 →
    ∀ (x1 : Int),
      x1 = ↑(List.length ls) →
        ls = ls ∧
          Int.ofNat 12 = 12 ∧
            x1 = ↑(List.length ls) ∧
              Int.ofNat 0 = 0 ∧
                FitC ls ∧
                  (mkErrR [] ls = 0 →
                      ∀ (x4 : Bool),
                        x4 = decide (12 + sumC ls > 65536) →
                          (x4 = true → False) ∧
                            (x4 = false →
                              (some IntKind.u8 = some IntKind.u8 ∧ 4 = List.length [V.int IntKind.u8 70, V.int IntKind.u8 79, V.int IntKind.u8 82, V.int IntKind.u8 49] ∧ 0 < 4) ∧
                                (True →
                                  ∀ (x9 : Int),
                                    x9 = IntKind.wrap IntKind.i64 (12 + sumC ls - 8) →
                                      (4 = List.length [V.int IntKind.u8 70, V.int IntKind.u8 79, V.int IntKind.u8 82, V.int IntKind.u8 49] ∧ BLs [V.int IntKind.u8 70, V.int IntKind.u8 79, V.int IntKind.u8 82, V.int IntKind.u8 49] ∧ List.length [V.int IntKind.u8 70, V.int IntKind.u8 79, V.int IntKind.u8 82, V.int IntKind.u8 49] ≤ 1000000000) ∧
                                        (List.length [V.int IntKind.u8 70, V.int IntKind.u8 79, V.int IntKind.u8 82, V.int IntKind.u8 49] + 4 =
                                              List.length [V.int IntKind.u8 70, V.int IntKind.u8 79, V.int IntKind.u8 82, V.int IntKind.u8 49, V.int IntKind.u8 (IntKind.wrap IntKind.u8 (Int.fdiv x9 16777216)), V.int IntKind.u8 (IntKind.wrap IntKind.u8 (Int.fdiv x9 65536)), V.int IntKind.u8 (IntKind.wrap IntKind.u8 (Int.fdiv x9 256)), V.int IntKind.u8 (IntKind.wrap IntKind.u8 x9)] ∧
                                            5 = 5 ∧
                                              ((false || true) = true ∧ True) ∧
                                                (∀ (v11 : V), List.Mem v11 [V.int IntKind.u8 ↑66, V.int IntKind.u8 ↑69, V.int IntKind.u8 ↑65, V.int IntKind.u8 ↑77] → V.sz v11 = 1) ∧
                                                  some 1 = some 1 ∧
                                                    true = true ∧
                                                      ∃ b13,
                                                        some 1 = some b13 ∧
                                                          (List.length [V.int IntKind.u8 70, V.int IntKind.u8 79, V.int IntKind.u8 82, V.int IntKind.u8 49] + 4 + List.length [V.int IntKind.u8 ↑66, V.int IntKind.u8 ↑69, V.int IntKind.u8 ↑65, V.int IntKind.u8 ↑77]) * b13 ≤ 140737488355328 ∧
                                                            List.length [V.int IntKind.u8 70, V.int IntKind.u8 79, V.int IntKind.u8 82, V.int IntKind.u8 49] + 4 + List.length [V.int IntKind.u8 ↑66, V.int IntKind.u8 ↑69, V.int IntKind.u8 ↑65, V.int IntKind.u8 ↑77] ≤ 9223372036854775807) ∧
                                          (True →
                                            List.length ls ≤ 9223372036854775807 →
                                              ∀ (x16 : Int),
                                                x16 = ↑(List.length ls) →
                                                  NoIds
                                                      [V.int IntKind.u8 70, V.int IntKind.u8 79, V.int IntKind.u8 82, V.int IntKind.u8 49, V.int IntKind.u8 (IntKind.wrap IntKind.u8 (Int.fdiv x9 16777216)), V.int IntKind.u8 (IntKind.wrap IntKind.u8 (Int.fdiv x9 65536)), V.int IntKind.u8 (IntKind.wrap IntKind.u8 (Int.fdiv x9 256)), V.int IntKind.u8 (IntKind.wrap IntKind.u8 x9), V.int IntKind.u8 ↑66,
                                                        V.int IntKind.u8 ↑69, V.int IntKind.u8 ↑65, V.int IntKind.u8 ↑77] ∧
                                                    List.length [V.int IntKind.u8 70, V.int IntKind.u8 79, V.int IntKind.u8 82, V.int IntKind.u8 49, V.int IntKind.u8 (IntKind.wrap IntKind.u8 (Int.fdiv x9 16777216)), V.int IntKind.u8 (IntKind.wrap IntKind.u8 (Int.fdiv x9 65536)), V.int IntKind.u8 (IntKind.wrap IntKind.u8 (Int.fdiv x9 256)), V.int IntKind.u8 (IntKind.wrap IntKind.u8 x9)] +
                                                          List.length [V.int IntKind.u8 ↑66, V.int IntKind.u8 ↑69, V.int IntKind.u8 ↑65, V.int IntKind.u8 ↑77] =
                                                        List.length
                                                          [V.int IntKind.u8 70, V.int IntKind.u8 79, V.int IntKind.u8 82, V.int IntKind.u8 49, V.int IntKind.u8 (IntKind.wrap IntKind.u8 (Int.fdiv x9 16777216)), V.int IntKind.u8 (IntKind.wrap IntKind.u8 (Int.fdiv x9 65536)), V.int IntKind.u8 (IntKind.wrap IntKind.u8 (Int.fdiv x9 256)), V.int IntKind.u8 (IntKind.wrap IntKind.u8 x9),
                                                            V.int IntKind.u8 ↑66, V.int IntKind.u8 ↑69, V.int IntKind.u8 ↑65, V.int IntKind.u8 ↑77] ∧
                                                      x16 = ↑(List.length ls) ∧
                                                        Int.ofNat 0 = 0 ∧
                                                          FitC ls ∧
                                                            (∀ (u18 : V), List.Mem u18 ls → List.length (nmV u18) = 4) ∧
                                                              sumC ls ≤ 65536 ∧
                                                                BLs
                                                                    [V.int IntKind.u8 70, V.int IntKind.u8 79, V.int IntKind.u8 82, V.int IntKind.u8 49, V.int IntKind.u8 (IntKind.wrap IntKind.u8 (Int.fdiv x9 16777216)), V.int IntKind.u8 (IntKind.wrap IntKind.u8 (Int.fdiv x9 65536)), V.int IntKind.u8 (IntKind.wrap IntKind.u8 (Int.fdiv x9 256)), V.int IntKind.u8 (IntKind.wrap IntKind.u8 x9),
                                                                      V.int IntKind.u8 ↑66, V.int IntKind.u8 ↑69, V.int IntKind.u8 ↑65, V.int IntKind.u8 ↑77] ∧
                                                                  List.length
                                                                        [V.int IntKind.u8 70, V.int IntKind.u8 79, V.int IntKind.u8 82, V.int IntKind.u8 49, V.int IntKind.u8 (IntKind.wrap IntKind.u8 (Int.fdiv x9 16777216)), V.int IntKind.u8 (IntKind.wrap IntKind.u8 (Int.fdiv x9 65536)), V.int IntKind.u8 (IntKind.wrap IntKind.u8 (Int.fdiv x9 256)), V.int IntKind.u8 (IntKind.wrap IntKind.u8 x9),
                                                                          V.int IntKind.u8 ↑66, V.int IntKind.u8 ↑69, V.int IntKind.u8 ↑65, V.int IntKind.u8 ↑77] =
                                                                      12 ∧
                                                                    r =
                                                                        V.tup
                                                                          [V.sl 1008
                                                                              (List.length
                                                                                (V.int IntKind.u8 70 ::
                                                                                  V.int IntKind.u8 79 ::
                                                                                    V.int IntKind.u8 82 ::
                                                                                      V.int IntKind.u8 49 ::
                                                                                        V.int IntKind.u8 (IntKind.wrap IntKind.u8 (Int.fdiv x9 16777216)) ::
                                                                                          V.int IntKind.u8 (IntKind.wrap IntKind.u8 (Int.fdiv x9 65536)) :: V.int IntKind.u8 (IntKind.wrap IntKind.u8 (Int.fdiv x9 256)) :: V.int IntKind.u8 (IntKind.wrap IntKind.u8 x9) :: V.int IntKind.u8 ↑66 :: V.int IntKind.u8 ↑69 :: V.int IntKind.u8 ↑65 :: V.int IntKind.u8 ↑77 :: mkRows ls)),
                                                                            V.int IntKind.i64 0] ∧
                                                                      ks =
                                                                        [{ arr := some 5, fz := false,
                                                                            t :=
                                                                              V.agg
                                                                                (V.int IntKind.u8 70 ::
                                                                                  V.int IntKind.u8 79 ::
                                                                                    V.int IntKind.u8 82 ::
                                                                                      V.int IntKind.u8 49 ::
                                                                                        V.int IntKind.u8 (IntKind.wrap IntKind.u8 (Int.fdiv x9 16777216)) ::
                                                                                          V.int IntKind.u8 (IntKind.wrap IntKind.u8 (Int.fdiv x9 65536)) :: V.int IntKind.u8 (IntKind.wrap IntKind.u8 (Int.fdiv x9 256)) :: V.int IntKind.u8 (IntKind.wrap IntKind.u8 x9) :: V.int IntKind.u8 ↑66 :: V.int IntKind.u8 ↑69 :: V.int IntKind.u8 ↑65 :: V.int IntKind.u8 ↑77 :: mkRows ls) }])))) ∧
                    (mkErrR [] ls ≠ 0 → False)) := by kernel_rfl
theorem n10f (ls : List V) (r : V) (ks : List Blk) : wC Try.prog sp10 74 noHint (prsOf [(7, [[], [], [0, 1], [], [3], [2, 0, 1, 4, 3], [5, 2, 0, 1, 4, 3]]), (9, [[], [], [1], [2, 1], [3, 2, 1], [], [5], [6, 5], [7, 6, 5], [4, 3, 2, 1, 8, 7, 6, 5], [0, 9, 4, 3, 2, 1, 8, 7, 6, 5], [10, 0, 9, 4, 3, 2, 1, 8, 7, 6, 5]]), (17, [[], [], [1], [0, 2, 1], [], [4], [5, 4], [3, 0, 2, 1, 6, 5, 4], [], [8], [7, 3, 0, 2, 1, 6, 5, 4, 9, 8], [10, 7, 3, 0, 2, 1, 6, 5, 4, 9, 8]])]) ls10 0 (bodyOf Try.f10) 1000 (initL [.list false ls] 0) [] (finH Try.prog none Try.f10.results.toList [] fun v bs => r = v ∧ ks = bs) = (
  List.length ls ≤ 9223372036854775807 →
    ∀ (x1 : Int),
      x1 = ↑(List.length ls) →
        ls = ls ∧
          Int.ofNat 12 = 12 ∧
            x1 = ↑(List.length ls) ∧
              Int.ofNat 0 = 0 ∧
                FitC ls ∧
                  (mkErrR [] ls = 0 →
                      ∀ (x4 : Bool),
                        x4 = decide (12 + sumC ls > 65536) →
                          (x4 = true → r = V.tup [V.nils, V.int IntKind.i64 2] ∧ ks = []) ∧
                            (x4 = false →
                              (some IntKind.u8 = some IntKind.u8 ∧ 4 = List.length [V.int IntKind.u8 70, V.int IntKind.u8 79, V.int IntKind.u8 82, V.int IntKind.u8 49] ∧ 0 < 4) ∧
                                (True →
                                  ∀ (x9 : Int),
                                    x9 = IntKind.wrap IntKind.i64 (12 + sumC ls - 8) →
                                      (4 = List.length [V.int IntKind.u8 70, V.int IntKind.u8 79, V.int IntKind.u8 82, V.int IntKind.u8 49] ∧ BLs [V.int IntKind.u8 70, V.int IntKind.u8 79, V.int IntKind.u8 82, V.int IntKind.u8 49] ∧ List.length [V.int IntKind.u8 70, V.int IntKind.u8 79, V.int IntKind.u8 82, V.int IntKind.u8 49] ≤ 1000000000) ∧
                                        (List.length [V.int IntKind.u8 70, V.int IntKind.u8 79, V.int IntKind.u8 82, V.int IntKind.u8 49] + 4 =
                                              List.length [V.int IntKind.u8 70, V.int IntKind.u8 79, V.int IntKind.u8 82, V.int IntKind.u8 49, V.int IntKind.u8 (IntKind.wrap IntKind.u8 (Int.fdiv x9 16777216)), V.int IntKind.u8 (IntKind.wrap IntKind.u8 (Int.fdiv x9 65536)), V.int IntKind.u8 (IntKind.wrap IntKind.u8 (Int.fdiv x9 256)), V.int IntKind.u8 (IntKind.wrap IntKind.u8 x9)] ∧
                                            5 = 5 ∧
                                              ((false || true) = true ∧ True) ∧
                                                (∀ (v11 : V), List.Mem v11 [V.int IntKind.u8 ↑66, V.int IntKind.u8 ↑69, V.int IntKind.u8 ↑65, V.int IntKind.u8 ↑77] → V.sz v11 = 1) ∧
                                                  some 1 = some 1 ∧
                                                    true = true ∧
                                                      ∃ b13,
                                                        some 1 = some b13 ∧
                                                          (List.length [V.int IntKind.u8 70, V.int IntKind.u8 79, V.int IntKind.u8 82, V.int IntKind.u8 49] + 4 + List.length [V.int IntKind.u8 ↑66, V.int IntKind.u8 ↑69, V.int IntKind.u8 ↑65, V.int IntKind.u8 ↑77]) * b13 ≤ 140737488355328 ∧
                                                            List.length [V.int IntKind.u8 70, V.int IntKind.u8 79, V.int IntKind.u8 82, V.int IntKind.u8 49] + 4 + List.length [V.int IntKind.u8 ↑66, V.int IntKind.u8 ↑69, V.int IntKind.u8 ↑65, V.int IntKind.u8 ↑77] ≤ 9223372036854775807) ∧
                                          (True →
                                            List.length ls ≤ 9223372036854775807 →
                                              ∀ (x16 : Int),
                                                x16 = ↑(List.length ls) →
                                                  NoIds
                                                      [V.int IntKind.u8 70, V.int IntKind.u8 79, V.int IntKind.u8 82, V.int IntKind.u8 49, V.int IntKind.u8 (IntKind.wrap IntKind.u8 (Int.fdiv x9 16777216)), V.int IntKind.u8 (IntKind.wrap IntKind.u8 (Int.fdiv x9 65536)), V.int IntKind.u8 (IntKind.wrap IntKind.u8 (Int.fdiv x9 256)), V.int IntKind.u8 (IntKind.wrap IntKind.u8 x9), V.int IntKind.u8 ↑66,
                                                        V.int IntKind.u8 ↑69, V.int IntKind.u8 ↑65, V.int IntKind.u8 ↑77] ∧
                                                    List.length [V.int IntKind.u8 70, V.int IntKind.u8 79, V.int IntKind.u8 82, V.int IntKind.u8 49, V.int IntKind.u8 (IntKind.wrap IntKind.u8 (Int.fdiv x9 16777216)), V.int IntKind.u8 (IntKind.wrap IntKind.u8 (Int.fdiv x9 65536)), V.int IntKind.u8 (IntKind.wrap IntKind.u8 (Int.fdiv x9 256)), V.int IntKind.u8 (IntKind.wrap IntKind.u8 x9)] +
                                                          List.length [V.int IntKind.u8 ↑66, V.int IntKind.u8 ↑69, V.int IntKind.u8 ↑65, V.int IntKind.u8 ↑77] =
                                                        List.length
                                                          [V.int IntKind.u8 70, V.int IntKind.u8 79, V.int IntKind.u8 82, V.int IntKind.u8 49, V.int IntKind.u8 (IntKind.wrap IntKind.u8 (Int.fdiv x9 16777216)), V.int IntKind.u8 (IntKind.wrap IntKind.u8 (Int.fdiv x9 65536)), V.int IntKind.u8 (IntKind.wrap IntKind.u8 (Int.fdiv x9 256)), V.int IntKind.u8 (IntKind.wrap IntKind.u8 x9),
                                                            V.int IntKind.u8 ↑66, V.int IntKind.u8 ↑69, V.int IntKind.u8 ↑65, V.int IntKind.u8 ↑77] ∧
                                                      x16 = ↑(List.length ls) ∧
                                                        Int.ofNat 0 = 0 ∧
                                                          FitC ls ∧
                                                            (∀ (u18 : V), List.Mem u18 ls → List.length (nmV u18) = 4) ∧
                                                              sumC ls ≤ 65536 ∧
                                                                BLs
                                                                    [V.int IntKind.u8 70, V.int IntKind.u8 79, V.int IntKind.u8 82, V.int IntKind.u8 49, V.int IntKind.u8 (IntKind.wrap IntKind.u8 (Int.fdiv x9 16777216)), V.int IntKind.u8 (IntKind.wrap IntKind.u8 (Int.fdiv x9 65536)), V.int IntKind.u8 (IntKind.wrap IntKind.u8 (Int.fdiv x9 256)), V.int IntKind.u8 (IntKind.wrap IntKind.u8 x9),
                                                                      V.int IntKind.u8 ↑66, V.int IntKind.u8 ↑69, V.int IntKind.u8 ↑65, V.int IntKind.u8 ↑77] ∧
                                                                  List.length
                                                                        [V.int IntKind.u8 70, V.int IntKind.u8 79, V.int IntKind.u8 82, V.int IntKind.u8 49, V.int IntKind.u8 (IntKind.wrap IntKind.u8 (Int.fdiv x9 16777216)), V.int IntKind.u8 (IntKind.wrap IntKind.u8 (Int.fdiv x9 65536)), V.int IntKind.u8 (IntKind.wrap IntKind.u8 (Int.fdiv x9 256)), V.int IntKind.u8 (IntKind.wrap IntKind.u8 x9),
                                                                          V.int IntKind.u8 ↑66, V.int IntKind.u8 ↑69, V.int IntKind.u8 ↑65, V.int IntKind.u8 ↑77] =
                                                                      12 ∧
                                                                    r =
                                                                        V.tup
                                                                          [V.sl 1008
                                                                              (List.length
                                                                                (V.int IntKind.u8 70 ::
                                                                                  V.int IntKind.u8 79 ::
                                                                                    V.int IntKind.u8 82 ::
                                                                                      V.int IntKind.u8 49 ::
                                                                                        V.int IntKind.u8 (IntKind.wrap IntKind.u8 (Int.fdiv x9 16777216)) ::
                                                                                          V.int IntKind.u8 (IntKind.wrap IntKind.u8 (Int.fdiv x9 65536)) :: V.int IntKind.u8 (IntKind.wrap IntKind.u8 (Int.fdiv x9 256)) :: V.int IntKind.u8 (IntKind.wrap IntKind.u8 x9) :: V.int IntKind.u8 ↑66 :: V.int IntKind.u8 ↑69 :: V.int IntKind.u8 ↑65 :: V.int IntKind.u8 ↑77 :: mkRows ls)),
                                                                            V.int IntKind.i64 0] ∧
                                                                      ks = [])))) ∧
                    (mkErrR [] ls ≠ 0 → r = V.tup [V.nils, V.int IntKind.i64 (mkErrR [] ls)] ∧ ks = [])) := by kernel_rfl
theorem nl8_0 (ls : List V) (i : Int) (Nx Ex Rt : List V → List Blk → Prop) : wC Try.prog sp8 33 noHint (prsOf []) noLs 0 (lcode Try.f8 0).2 1000 (List.zip [0, 3] [.list false ls, .int .i64 i]) (List.zip [] []) (endK ends8_0 Nx Ex Rt) = (
  List.length ls ≤ 9223372036854775807 →
    ∀ (x1 : Int),
      x1 = ↑(List.length ls) →
        ∀ (x3 : Bool),
          x3 = decide (i < x1) →
            (x3 = true →
                ∀ (x6 : Bool),
                  x6 = decide (i < 12) →
                    (x6 = true →
                        0 ≤ i ∧
                          i < ↑(List.length ls) ∧
                            ∃ s9 s10,
                              getV ls i = V.agg [V.str s9, V.str s10] ∧
                                (List.length s10 ≤ 9223372036854775807 →
                                  ∀ (x12 : Int),
                                    x12 = ↑(List.length s10) →
                                      ∀ (x14 : Bool),
                                        x14 = decide (x12 > 3000) →
                                          (x14 = true → Rt [V.gd true (V.bool false)] []) ∧
                                            (x14 = false →
                                              0 ≤ i ∧
                                                i < ↑(List.length ls) ∧
                                                  ∃ s18 s19,
                                                    getV ls i = V.agg [V.str s18, V.str s19] ∧ (List.length s18 ≤ 9223372036854775807 → ∀ (x21 : Int), x21 = ↑(List.length s18) → ∀ (x23 : Bool), x23 = decide (x21 > 20) → (x23 = true → Rt [V.gd true (V.bool false)] []) ∧ (x23 = false → ∀ (x27 : Int), x27 = IntKind.wrap IntKind.i64 (i + 1) → Nx [V.list false ls, V.int IntKind.i64 x27] []))))) ∧
                      (x6 = false → Ex [V.list false ls] [])) ∧
              (x3 = false → Ex [V.list false ls] [])) := by kernel_rfl
theorem n8 (ls : List V) (r : V) : wC Try.prog sp8 33 noHint (prsOf []) ls8 0 (bodyOf Try.f8) 1000 (initL [.list false ls] 0) [] (finK Try.prog none Try.f8.results.toList r) = (
  Int.ofNat 0 = 0 ∧ CLs ls ∧ ((∀ (j0 : Int), 0 ≤ j0 → j0 < ↑(List.length ls) → j0 < 12 → okC (getV ls j0)) → List.length ls ≤ 9223372036854775807 → ∀ (x6 : Int), x6 = ↑(List.length ls) → ∀ (x8 : Bool), x8 = decide (x6 ≤ 12) → r = V.bool x8) ∧ ((¬∀ (j10 : Int), 0 ≤ j10 → j10 < ↑(List.length ls) → j10 < 12 → okC (getV ls j10)) → r = V.bool false)) := by kernel_rfl
theorem nl12_0 (xs ys : List V) (i : Int) (Nx Ex Rt : List V → List Blk → Prop) : wC Try.prog sp12 41 noHint (prsOf [(6, [[], [], [0, 1], [2, 0, 1], [3, 2, 0, 1], [], [], [5, 6], [7, 5, 6], [8, 7, 5, 6], [4, 3, 2, 0, 1, 9, 8, 7, 5, 6], [10, 4, 3, 2, 0, 1, 9, 8, 7, 5, 6], [11, 10, 4, 3, 2, 0, 1, 9, 8, 7, 5, 6], [11, 10, 4, 3, 2, 0, 1, 9, 8, 7, 5, 6], [12, 11, 10, 4, 3, 2, 0, 1, 9, 8, 7, 5, 6, 13], [14, 12, 11, 10, 4, 3, 2, 0, 1, 9, 8, 7, 5, 6, 13], [15, 14, 12, 11, 10, 4, 3, 2, 0, 1, 9, 8, 7, 5, 6, 13], [11, 10, 4, 3, 2, 0, 1, 9, 8, 7, 5, 6], [11, 10, 4, 3, 2, 0, 1, 9, 8, 7, 5, 6], [17, 11, 10, 4, 3, 2, 0, 1, 9, 8, 7, 5, 6, 18], [19, 17, 11, 10, 4, 3, 2, 0, 1, 9, 8, 7, 5, 6, 18], [20, 19, 17, 11, 10, 4, 3, 2, 0, 1, 9, 8, 7, 5, 6, 18], [16, 15, 14, 12, 11, 10, 4, 3, 2, 0, 1, 9, 8, 7, 5, 6, 13, 21, 20, 19, 17, 18], [11, 10, 4, 3, 2, 0, 1, 9, 8, 7, 5, 6, 22, 16, 15, 14, 12, 13, 21, 20, 19, 17, 18]])]) noLs 0 (lcode Try.f12 0).2 1000 (List.zip [0, 1, 5] [.list false xs, .list false ys, .int .i64 i]) (List.zip [] []) (endK ends12_0 Nx Ex Rt) = (
  List.length xs ≤ 9223372036854775807 →
    ∀ (x1 : Int),
      x1 = ↑(List.length xs) →
        ∀ (x3 : Bool),
          x3 = decide (i < x1) →
            (x3 = true →
                0 ≤ i ∧
                  i < ↑(List.length xs) ∧
                    ∃ s6 s7,
                      getV xs i = V.agg [V.str s6, V.str s7] ∧
                        0 ≤ i ∧
                          i < ↑(List.length ys) ∧
                            ∃ s8 s9,
                              getV ys i = V.agg [V.str s8, V.str s9] ∧
                                ∀ (x10 : Bool),
                                  x10 = (s6 != s8) →
                                    (x10 = true → Rt [V.gd true (V.bool false)] []) ∧
                                      (x10 = false →
                                        0 ≤ i ∧
                                          i < ↑(List.length xs) ∧
                                            ∃ s14 s15,
                                              getV xs i = V.agg [V.str s14, V.str s15] ∧ 0 ≤ i ∧ i < ↑(List.length ys) ∧ ∃ s16 s17, getV ys i = V.agg [V.str s16, V.str s17] ∧ ∀ (x18 : Bool), x18 = (s15 != s17) → (x18 = true → Rt [V.gd true (V.bool false)] []) ∧ (x18 = false → ∀ (x22 : Int), x22 = IntKind.wrap IntKind.i64 (i + 1) → Nx [V.list false xs, V.list false ys, V.int IntKind.i64 x22] []))) ∧
              (x3 = false → Ex [] [])) := by kernel_rfl
theorem n12 (xs ys : List V) (r : V) : wC Try.prog sp12 41 noHint (prsOf [(6, [[], [], [0, 1], [2, 0, 1], [3, 2, 0, 1], [], [], [5, 6], [7, 5, 6], [8, 7, 5, 6], [4, 3, 2, 0, 1, 9, 8, 7, 5, 6], [10, 4, 3, 2, 0, 1, 9, 8, 7, 5, 6], [11, 10, 4, 3, 2, 0, 1, 9, 8, 7, 5, 6], [11, 10, 4, 3, 2, 0, 1, 9, 8, 7, 5, 6], [12, 11, 10, 4, 3, 2, 0, 1, 9, 8, 7, 5, 6, 13], [14, 12, 11, 10, 4, 3, 2, 0, 1, 9, 8, 7, 5, 6, 13], [15, 14, 12, 11, 10, 4, 3, 2, 0, 1, 9, 8, 7, 5, 6, 13], [11, 10, 4, 3, 2, 0, 1, 9, 8, 7, 5, 6], [11, 10, 4, 3, 2, 0, 1, 9, 8, 7, 5, 6], [17, 11, 10, 4, 3, 2, 0, 1, 9, 8, 7, 5, 6, 18], [19, 17, 11, 10, 4, 3, 2, 0, 1, 9, 8, 7, 5, 6, 18], [20, 19, 17, 11, 10, 4, 3, 2, 0, 1, 9, 8, 7, 5, 6, 18], [16, 15, 14, 12, 11, 10, 4, 3, 2, 0, 1, 9, 8, 7, 5, 6, 13, 21, 20, 19, 17, 18], [11, 10, 4, 3, 2, 0, 1, 9, 8, 7, 5, 6, 22, 16, 15, 14, 12, 13, 21, 20, 19, 17, 18]])]) ls12 0 (bodyOf Try.f12) 1000 (initL [.list false xs, .list false ys] 0) [] (finK Try.prog none Try.f12.results.toList r) = (
  List.length xs ≤ 9223372036854775807 → ∀ (x1 : Int), x1 = ↑(List.length xs) → List.length ys ≤ 9223372036854775807 → ∀ (x4 : Int), x4 = ↑(List.length ys) → ∀ (x6 : Bool), x6 = (x1 != x4) → (x6 = true → r = V.bool false) ∧ (x6 = false → Int.ofNat 0 = 0 ∧ CLs xs ∧ CLs ys ∧ List.length xs = List.length ys ∧ (xs = ys → r = V.bool true) ∧ (xs ≠ ys → r = V.bool false))) := by kernel_rfl
end GoL
