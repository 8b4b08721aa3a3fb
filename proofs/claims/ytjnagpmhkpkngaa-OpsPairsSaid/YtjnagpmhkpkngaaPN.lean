/- A part of the proof: a logic for programs of this kind, proved sound over the model; contracts of functions; plain laws. -/
import Derived.Test.YtjnagpmhkpkngaaPD
set_option linter.all false
open Go Go.Proofs
namespace GoL
set_option linter.unusedVariables false
set_option maxRecDepth 100000
theorem n15 (xs : List V) (r : V) (ks : List Blk) : wC Try.prog sp15 6 noHint (prsOf []) noLs 0 (bodyOf Try.f15) 1000 (initL [.list false xs] 0) [] (finH Try.prog none Try.f15.results.toList [1002] fun v bs => r = v ∧ ks = bs) = (
  (((true || false) = true ∧ True) ∧ (∀ (v0 : V), List.Mem v0 xs → V.sz v0 = 3) ∧ some 3 = some 3 ∧ true = true ∧ ∃ b2, some 40 = some b2 ∧ List.length xs * b2 ≤ 140737488355328 ∧ List.length xs ≤ 9223372036854775807) ∧ (True → r = V.agg [V.int IntKind.i64 7, V.int IntKind.i64 0, V.sl 1002 (List.length xs)] ∧ ks = [{ arr := some 28, fz := false, t := V.agg xs }])) := by kernel_rfl
theorem nl4_0 (ls rows : List V) (tw : Bool) (hw i : Int) (Nx Ex Rt : List V → List Blk → Prop) : wC Try.prog sp4 102 noHint (prsOf [(5, [[], [0], [], [2], [], [], [4, 5], [6, 4, 5], [7, 6, 4, 5, 3, 2], [8, 7, 6, 4, 5, 3, 2], [9, 8, 7, 6, 4, 5, 3, 2], [3, 2, 10, 9, 8, 7, 6, 4, 5], [1, 0, 11, 3, 2, 10, 9, 8, 7, 6, 4, 5], [0, 1, 2, 3, 4, 5, 6, 7, 8, 9, 10, 11, 12], [13, 0, 1, 2, 3, 4, 5, 6, 7, 8, 9, 10, 11, 12]]), (7, [[], [0], [], [0, 1, 2], [3, 0, 1, 2], [4, 3, 0, 1, 2], [5, 4, 3, 0, 1, 2], [6, 5, 4, 3, 0, 1, 2], [6, 5, 4, 3, 0, 1, 2, 7], [8, 6, 5, 4, 3, 0, 1, 2, 7]]), (8, [[], [0], [], [0, 1, 2], [3, 0, 1, 2], [4, 3, 0, 1, 2], [5, 4, 3, 0, 1, 2]]), (12, [[], [0], [], [2], [2, 3], [1, 0, 4, 2, 3], [0, 1, 2, 3, 4, 5], [6, 0, 1, 2, 3, 4, 5]]), (16, [[], [0], [], [1, 0, 2], [3, 1, 0, 2]]), (10, [[], [0], [], [1, 0, 2], [3, 1, 0, 2]]), (17, [[], [0], [], [0, 1, 2], [3, 0, 1, 2], [4, 3, 0, 1, 2], [5, 4, 3, 0, 1, 2], [6, 5, 4, 3, 0, 1, 2], [7, 6, 5, 4, 3, 0, 1, 2], [7, 6, 5, 4, 3, 0, 1, 2, 8], [9, 7, 6, 5, 4, 3, 0, 1, 2, 8]])]) noLs 0 (lcode Try.f4 0).2 1005 (List.zip [0, 1, 2, 7, 8] [.list false ls, .bool tw, .int .i64 hw, .ptr 1002 0 [], .int .i64 i]) (List.zip [1001, 1002] [⟨some 28, false, .agg rows⟩, ⟨none, false, .agg [.int .i64 7, .int .i64 0, .sl 1001 rows.length]⟩]) (endK ends4_0 Nx Ex Rt) = (
  List.length ls ≤ 9223372036854775807 →
    ∀ (x1 : Int),
      x1 = ↑(List.length ls) →
        ∀ (x3 : Bool),
          x3 = decide (i < x1) →
            (x3 = true →
                ∀ (x6 : Bool),
                  x6 = decide (i < 15) →
                    (x6 = true →
                        0 ≤ i ∧
                          i < ↑(List.length ls) ∧
                            ∃ n9,
                              getV ls i = V.int IntKind.i64 n9 ∧
                                Int.ofNat 100 ≠ 0 ∧
                                  ∀ (x10 : Int),
                                    x10 = IntKind.wrap IntKind.i64 (1 + place n9 100) →
                                      (List.length rows = List.length rows ∧
                                          28 = 28 ∧
                                            ((true || false) = true ∧ True) ∧
                                              (∀ (v12 : V), List.Mem v12 [V.agg [V.int IntKind.i64 1, V.int IntKind.i64 i, V.list false []], V.agg [V.int IntKind.i64 5, V.int IntKind.i64 x10, V.list false []]] → V.sz v12 = 3) ∧
                                                some 3 = some 3 ∧
                                                  true = true ∧
                                                    ∃ b14,
                                                      some 40 = some b14 ∧
                                                        (List.length rows + List.length [V.agg [V.int IntKind.i64 1, V.int IntKind.i64 i, V.list false []], V.agg [V.int IntKind.i64 5, V.int IntKind.i64 x10, V.list false []]]) * b14 ≤ 140737488355328 ∧
                                                          List.length rows + List.length [V.agg [V.int IntKind.i64 1, V.int IntKind.i64 i, V.list false []], V.agg [V.int IntKind.i64 5, V.int IntKind.i64 x10, V.list false []]] ≤ 9223372036854775807) ∧
                                        ∀ (x15 : Int),
                                          x15 = IntKind.wrap IntKind.i64 (i + 1) →
                                            NoIds (rows ++ [V.agg [V.int IntKind.i64 1, V.int IntKind.i64 i, V.list false []], V.agg [V.int IntKind.i64 5, V.int IntKind.i64 x10, V.list false []]]) ∧
                                              Nx [V.list false ls, V.bool tw, V.int IntKind.i64 hw, V.ptr 1002 0 [], V.int IntKind.i64 x15]
                                                [{ arr := some 28, fz := false, t := V.agg (rows ++ [V.agg [V.int IntKind.i64 1, V.int IntKind.i64 i, V.list false []], V.agg [V.int IntKind.i64 5, V.int IntKind.i64 x10, V.list false []]]) },
                                                  { arr := none, fz := false, t := V.agg [V.int IntKind.i64 7, V.int IntKind.i64 0, V.sl 1001 (List.length rows + List.length [V.agg [V.int IntKind.i64 1, V.int IntKind.i64 i, V.list false []], V.agg [V.int IntKind.i64 5, V.int IntKind.i64 x10, V.list false []]])] }]) ∧
                      (x6 = false → NoIds rows ∧ Ex [V.bool tw, V.int IntKind.i64 hw, V.ptr 1002 0 []] [{ arr := some 28, fz := false, t := V.agg rows }, { arr := none, fz := false, t := V.agg [V.int IntKind.i64 7, V.int IntKind.i64 0, V.sl 1001 (List.length rows)] }])) ∧
              (x3 = false → NoIds rows ∧ Ex [V.bool tw, V.int IntKind.i64 hw, V.ptr 1002 0 []] [{ arr := some 28, fz := false, t := V.agg rows }, { arr := none, fz := false, t := V.agg [V.int IntKind.i64 7, V.int IntKind.i64 0, V.sl 1001 (List.length rows)] }])) := by kernel_rfl
theorem n4 (ls : List V) (tw : Bool) (hw : Int) (r : V) : wC Try.prog sp4 102 (hintOf [(8998, 1), (16004, 1), (10004, 1)]) (prsOf [(5, [[], [0], [], [2], [], [], [4, 5], [6, 4, 5], [7, 6, 4, 5, 3, 2], [8, 7, 6, 4, 5, 3, 2], [9, 8, 7, 6, 4, 5, 3, 2], [3, 2, 10, 9, 8, 7, 6, 4, 5], [1, 0, 11, 3, 2, 10, 9, 8, 7, 6, 4, 5], [0, 1, 2, 3, 4, 5, 6, 7, 8, 9, 10, 11, 12], [13, 0, 1, 2, 3, 4, 5, 6, 7, 8, 9, 10, 11, 12]]), (7, [[], [0], [], [0, 1, 2], [3, 0, 1, 2], [4, 3, 0, 1, 2], [5, 4, 3, 0, 1, 2], [6, 5, 4, 3, 0, 1, 2], [6, 5, 4, 3, 0, 1, 2, 7], [8, 6, 5, 4, 3, 0, 1, 2, 7]]), (8, [[], [0], [], [0, 1, 2], [3, 0, 1, 2], [4, 3, 0, 1, 2], [5, 4, 3, 0, 1, 2]]), (12, [[], [0], [], [2], [2, 3], [1, 0, 4, 2, 3], [0, 1, 2, 3, 4, 5], [6, 0, 1, 2, 3, 4, 5]]), (16, [[], [0], [], [1, 0, 2], [3, 1, 0, 2]]), (10, [[], [0], [], [1, 0, 2], [3, 1, 0, 2]]), (17, [[], [0], [], [0, 1, 2], [3, 0, 1, 2], [4, 3, 0, 1, 2], [5, 4, 3, 0, 1, 2], [6, 5, 4, 3, 0, 1, 2], [7, 6, 5, 4, 3, 0, 1, 2], [7, 6, 5, 4, 3, 0, 1, 2, 8], [9, 7, 6, 5, 4, 3, 0, 1, 2, 8]])]) ls4 0 (bodyOf Try.f4) 1000 (initL [.list false ls, .bool tw, .int .i64 hw] 0) [] (finK Try.prog none Try.f4.results.toList r) = (
  ((∀ (v0 : V), List.Mem v0 [] → V.sz v0 = 3) ∧ 0 ≤ 1000) ∧
    NoIds [] ∧
      Int.ofNat 0 = 0 ∧
        ([] : List V) = [] ∧
          0 = 0 ∧
            (∀ (u2 : V), List.Mem u2 ls → Typed Try.prog 140737488351232 3 u2) ∧
              List.length ls ≤ 9223372036854775807 ∧
                List.length (prow ls (min 15 (List.length ls))) = List.length (prow ls (min 15 (List.length ls))) ∧
                  (List.length (prow ls (min 15 (List.length ls))) ≤ 9223372036854775807 →
                    ∀ (x5 : Int),
                      x5 = ↑(List.length (prow ls (min 15 (List.length ls)))) →
                        ∀ (x7 : Bool),
                          x7 = (x5 == 0) →
                            (x7 = true →
                                List.length (prow ls (min 15 (List.length ls))) = List.length (prow ls (min 15 (List.length ls))) ∧
                                  ((∀ (v10 : V), List.Mem v10 [V.agg [V.int IntKind.i64 3, V.int IntKind.i64 0, V.list false []], V.agg [V.int IntKind.i64 5, V.int IntKind.i64 1, V.list false []], V.agg [V.int IntKind.i64 7, V.int IntKind.i64 0, V.list false (prow ls (min 15 (List.length ls)))]] → V.sz v10 = 3) ∧
                                      List.length [V.agg [V.int IntKind.i64 3, V.int IntKind.i64 0, V.list false []], V.agg [V.int IntKind.i64 5, V.int IntKind.i64 1, V.list false []], V.agg [V.int IntKind.i64 7, V.int IntKind.i64 0, V.list false (prow ls (min 15 (List.length ls)))]] ≤ 1000) ∧
                                    (∀ (u12 : V), List.Mem u12 [V.agg [V.int IntKind.i64 3, V.int IntKind.i64 0, V.list false []], V.agg [V.int IntKind.i64 5, V.int IntKind.i64 1, V.list false []], V.agg [V.int IntKind.i64 7, V.int IntKind.i64 0, V.list false (prow ls (min 15 (List.length ls)))]] → Typed Try.prog 140737488351232 28 u12) ∧
                                      (fitsG 33 [V.agg [V.int IntKind.i64 3, V.int IntKind.i64 0, V.list false []], V.agg [V.int IntKind.i64 5, V.int IntKind.i64 1, V.list false []], V.agg [V.int IntKind.i64 7, V.int IntKind.i64 0, V.list false (prow ls (min 15 (List.length ls)))]] = true → r = V.bool true) ∧
                                        (fitsG 33 [V.agg [V.int IntKind.i64 3, V.int IntKind.i64 0, V.list false []], V.agg [V.int IntKind.i64 5, V.int IntKind.i64 1, V.list false []], V.agg [V.int IntKind.i64 7, V.int IntKind.i64 0, V.list false (prow ls (min 15 (List.length ls)))]] = false → r = V.bool false)) ∧
                              (x7 = false →
                                List.length (prow ls (min 15 (List.length ls))) = List.length (prow ls (min 15 (List.length ls))) ∧
                                  ((∀ (v17 : V), List.Mem v17 [V.agg [V.int IntKind.i64 3, V.int IntKind.i64 0, V.list false []], V.agg [V.int IntKind.i64 5, V.int IntKind.i64 1, V.list false []], V.agg [V.int IntKind.i64 7, V.int IntKind.i64 0, V.list false (prow ls (min 15 (List.length ls)))]] → V.sz v17 = 3) ∧
                                      List.length [V.agg [V.int IntKind.i64 3, V.int IntKind.i64 0, V.list false []], V.agg [V.int IntKind.i64 5, V.int IntKind.i64 1, V.list false []], V.agg [V.int IntKind.i64 7, V.int IntKind.i64 0, V.list false (prow ls (min 15 (List.length ls)))]] ≤ 1000) ∧
                                    (∀ (u19 : V), List.Mem u19 [V.agg [V.int IntKind.i64 3, V.int IntKind.i64 0, V.list false []], V.agg [V.int IntKind.i64 5, V.int IntKind.i64 1, V.list false []], V.agg [V.int IntKind.i64 7, V.int IntKind.i64 0, V.list false (prow ls (min 15 (List.length ls)))]] → Typed Try.prog 140737488351232 28 u19) ∧
                                      ∀ (x21 : Bool),
                                        x21 = !fitsG 33 [V.agg [V.int IntKind.i64 3, V.int IntKind.i64 0, V.list false []], V.agg [V.int IntKind.i64 5, V.int IntKind.i64 1, V.list false []], V.agg [V.int IntKind.i64 7, V.int IntKind.i64 0, V.list false (prow ls (min 15 (List.length ls)))]] →
                                          (x21 = true → r = V.bool false) ∧
                                            (x21 = false →
                                              (tw = true →
                                                  (List.length (prow ls (min 15 (List.length ls))) = List.length (prow ls (min 15 (List.length ls))) ∧
                                                      28 = 28 ∧
                                                        ((true || false) = true ∧ True) ∧
                                                          (∀ (v26 : V), List.Mem v26 [V.agg [V.int IntKind.i64 1, V.int IntKind.i64 0, V.list false []], V.agg [V.int IntKind.i64 5, V.int IntKind.i64 9, V.list false []]] → V.sz v26 = 3) ∧
                                                            some 3 = some 3 ∧
                                                              true = true ∧
                                                                ∃ b28,
                                                                  some 40 = some b28 ∧
                                                                    (List.length (prow ls (min 15 (List.length ls))) + List.length [V.agg [V.int IntKind.i64 1, V.int IntKind.i64 0, V.list false []], V.agg [V.int IntKind.i64 5, V.int IntKind.i64 9, V.list false []]]) * b28 ≤ 140737488355328 ∧
                                                                      List.length (prow ls (min 15 (List.length ls))) + List.length [V.agg [V.int IntKind.i64 1, V.int IntKind.i64 0, V.list false []], V.agg [V.int IntKind.i64 5, V.int IntKind.i64 9, V.list false []]] ≤ 9223372036854775807) ∧
                                                    List.length (prow ls (min 15 (List.length ls))) + List.length [V.agg [V.int IntKind.i64 1, V.int IntKind.i64 0, V.list false []], V.agg [V.int IntKind.i64 5, V.int IntKind.i64 9, V.list false []]] =
                                                        List.length (prow ls (min 15 (List.length ls)) ++ [V.agg [V.int IntKind.i64 1, V.int IntKind.i64 0, V.list false []], V.agg [V.int IntKind.i64 5, V.int IntKind.i64 9, V.list false []]]) ∧
                                                      ((∀ (v29 : V),
                                                            List.Mem v29
                                                                [V.agg [V.int IntKind.i64 3, V.int IntKind.i64 0, V.list false []], V.agg [V.int IntKind.i64 5, V.int IntKind.i64 1, V.list false []],
                                                                  V.agg [V.int IntKind.i64 7, V.int IntKind.i64 0, V.list false (prow ls (min 15 (List.length ls)) ++ [V.agg [V.int IntKind.i64 1, V.int IntKind.i64 0, V.list false []], V.agg [V.int IntKind.i64 5, V.int IntKind.i64 9, V.list false []]])]] →
                                                              V.sz v29 = 3) ∧
                                                          List.length
                                                              [V.agg [V.int IntKind.i64 3, V.int IntKind.i64 0, V.list false []], V.agg [V.int IntKind.i64 5, V.int IntKind.i64 1, V.list false []],
                                                                V.agg [V.int IntKind.i64 7, V.int IntKind.i64 0, V.list false (prow ls (min 15 (List.length ls)) ++ [V.agg [V.int IntKind.i64 1, V.int IntKind.i64 0, V.list false []], V.agg [V.int IntKind.i64 5, V.int IntKind.i64 9, V.list false []]])]] ≤
                                                            1000) ∧
                                                        (∀ (u31 : V),
                                                            List.Mem u31
                                                                [V.agg [V.int IntKind.i64 3, V.int IntKind.i64 0, V.list false []], V.agg [V.int IntKind.i64 5, V.int IntKind.i64 1, V.list false []],
                                                                  V.agg [V.int IntKind.i64 7, V.int IntKind.i64 0, V.list false (prow ls (min 15 (List.length ls)) ++ [V.agg [V.int IntKind.i64 1, V.int IntKind.i64 0, V.list false []], V.agg [V.int IntKind.i64 5, V.int IntKind.i64 9, V.list false []]])]] →
                                                              Typed Try.prog 140737488351232 28 u31) ∧
                                                          ∀ (x33 : Bool),
                                                            x33 =
                                                                !fitsG 33
                                                                    [V.agg [V.int IntKind.i64 3, V.int IntKind.i64 0, V.list false []], V.agg [V.int IntKind.i64 5, V.int IntKind.i64 1, V.list false []],
                                                                      V.agg [V.int IntKind.i64 7, V.int IntKind.i64 0, V.list false (prow ls (min 15 (List.length ls)) ++ [V.agg [V.int IntKind.i64 1, V.int IntKind.i64 0, V.list false []], V.agg [V.int IntKind.i64 5, V.int IntKind.i64 9, V.list false []]])]] →
                                                              (x33 = true → r = V.bool true) ∧ (x33 = false → r = V.bool false)) ∧
                                                (tw = false →
                                                  (IntKind.i64 = IntKind.i64 ∧ (Int.ofNat 3 = 0 → False)) ∧
                                                    (True →
                                                      ∀ (x40 : Int),
                                                        x40 = Int.tmod hw 3 →
                                                          ∀ (x42 : Bool),
                                                            x42 = (x40 == 0) →
                                                              (x42 = true →
                                                                  List.length (prow ls (min 15 (List.length ls))) = List.length (prow ls (min 15 (List.length ls))) ∧
                                                                    (List.length (prow ls (min 15 (List.length ls))) ≤ 9223372036854775807 →
                                                                      ∀ (x46 : Int),
                                                                        x46 = ↑(List.length (prow ls (min 15 (List.length ls)))) →
                                                                          ∀ (x48 : Int),
                                                                            x48 = IntKind.wrap IntKind.i64 (x46 - 1) →
                                                                              (List.length (prow ls (min 15 (List.length ls))) = List.length (prow ls (min 15 (List.length ls))) ∧
                                                                                  false = false ∧ True ∧ True ∧ True ∧ ((none : Option V) ≠ none → some (V.int IntKind.i64 x48) ≠ none ∧ Int.ofNat 0 = x48) ∧ 0 ≤ Int.ofNat 0 ∧ Int.ofNat 0 ≤ x48 ∧ x48 ≤ ↑(List.length (prow ls (min 15 (List.length ls)))) ∧ some 3 = some 3 ∧ ∀ (v51 : V), List.Mem v51 (prow ls (min 15 (List.length ls))) → V.sz v51 = 3) ∧
                                                                                (True →
                                                                                  ∀ (x54 : List V),
                                                                                    x54 = List.take (Int.toNat (x48 - Int.ofNat 0)) (List.drop (Int.toNat (Int.ofNat 0)) (prow ls (min 15 (List.length ls)))) →
                                                                                      ((∀ (v56 : V), List.Mem v56 [V.agg [V.int IntKind.i64 3, V.int IntKind.i64 0, V.list false []], V.agg [V.int IntKind.i64 5, V.int IntKind.i64 1, V.list false []], V.agg [V.int IntKind.i64 7, V.int IntKind.i64 0, V.list false x54]] → V.sz v56 = 3) ∧
                                                                                          List.length [V.agg [V.int IntKind.i64 3, V.int IntKind.i64 0, V.list false []], V.agg [V.int IntKind.i64 5, V.int IntKind.i64 1, V.list false []], V.agg [V.int IntKind.i64 7, V.int IntKind.i64 0, V.list false x54]] ≤ 1000) ∧
                                                                                        (∀ (u58 : V), List.Mem u58 [V.agg [V.int IntKind.i64 3, V.int IntKind.i64 0, V.list false []], V.agg [V.int IntKind.i64 5, V.int IntKind.i64 1, V.list false []], V.agg [V.int IntKind.i64 7, V.int IntKind.i64 0, V.list false x54]] → Typed Try.prog 140737488351232 28 u58) ∧
                                                                                          ∀ (x60 : Bool), x60 = !fitsG 33 [V.agg [V.int IntKind.i64 3, V.int IntKind.i64 0, V.list false []], V.agg [V.int IntKind.i64 5, V.int IntKind.i64 1, V.list false []], V.agg [V.int IntKind.i64 7, V.int IntKind.i64 0, V.list false x54]] → (x60 = true → r = V.bool true) ∧ (x60 = false → r = V.bool false)))) ∧
                                                                (x42 = false →
                                                                  (IntKind.i64 = IntKind.i64 ∧ (Int.ofNat 3 = 0 → False)) ∧
                                                                    (True →
                                                                      ∀ (x67 : Int),
                                                                        x67 = Int.tmod hw 3 →
                                                                          ∀ (x69 : Bool),
                                                                            x69 = (x67 == 1) →
                                                                              (x69 = true →
                                                                                  List.length (prow ls (min 15 (List.length ls))) = List.length (prow ls (min 15 (List.length ls))) ∧
                                                                                    Int.ofNat 0 ≤ 1 ∧
                                                                                      (1 : Int) < ↑(List.length (prow ls (min 15 (List.length ls)))) ∧
                                                                                        some 3 = some 3 ∧
                                                                                          List.length (prow ls (min 15 (List.length ls))) = List.length (prow ls (min 15 (List.length ls))) ∧
                                                                                            [1] ≠ [] ∧
                                                                                              offQ (V.agg (prow ls (min 15 (List.length ls)))) [1] = 3 ∧
                                                                                                (∃ u72, subQ (V.agg (prow ls (min 15 (List.length ls)))) [1] = some u72 ∧ V.sz (V.agg [V.int IntKind.i64 5, V.int IntKind.i64 0, V.list false []]) = V.sz u72 ∧ V.sz (V.agg [V.int IntKind.i64 5, V.int IntKind.i64 0, V.list false []]) = V.sz u72) ∧
                                                                                                  ∃ rows'73,
                                                                                                    V.agg rows'73 = updQ (V.agg [V.int IntKind.i64 5, V.int IntKind.i64 0, V.list false []]) (V.agg (prow ls (min 15 (List.length ls)))) [1] ∧
                                                                                                      List.length (prow ls (min 15 (List.length ls))) = List.length rows'73 ∧
                                                                                                        ((∀ (v74 : V), List.Mem v74 [V.agg [V.int IntKind.i64 3, V.int IntKind.i64 0, V.list false []], V.agg [V.int IntKind.i64 5, V.int IntKind.i64 1, V.list false []], V.agg [V.int IntKind.i64 7, V.int IntKind.i64 0, V.list false rows'73]] → V.sz v74 = 3) ∧
                                                                                                            List.length [V.agg [V.int IntKind.i64 3, V.int IntKind.i64 0, V.list false []], V.agg [V.int IntKind.i64 5, V.int IntKind.i64 1, V.list false []], V.agg [V.int IntKind.i64 7, V.int IntKind.i64 0, V.list false rows'73]] ≤ 1000) ∧
                                                                                                          (∀ (u76 : V), List.Mem u76 [V.agg [V.int IntKind.i64 3, V.int IntKind.i64 0, V.list false []], V.agg [V.int IntKind.i64 5, V.int IntKind.i64 1, V.list false []], V.agg [V.int IntKind.i64 7, V.int IntKind.i64 0, V.list false rows'73]] → Typed Try.prog 140737488351232 28 u76) ∧
                                                                                                            ∀ (x78 : Bool),
                                                                                                              x78 = !fitsG 33 [V.agg [V.int IntKind.i64 3, V.int IntKind.i64 0, V.list false []], V.agg [V.int IntKind.i64 5, V.int IntKind.i64 1, V.list false []], V.agg [V.int IntKind.i64 7, V.int IntKind.i64 0, V.list false rows'73]] →
                                                                                                                (x78 = true → r = V.bool true) ∧ (x78 = false → r = V.bool false)) ∧
                                                                                (x69 = false →
                                                                                  (IntKind.i64 = IntKind.i64 ∧ (Int.ofNat 3 = 0 → False)) ∧
                                                                                    (True →
                                                                                      ∀ (x85 : Int),
                                                                                        x85 = Int.tmod hw 3 →
                                                                                          ∀ (x87 : Bool),
                                                                                            x87 = (x85 == -1) →
                                                                                              (x87 = true →
                                                                                                  List.length (prow ls (min 15 (List.length ls))) = List.length (prow ls (min 15 (List.length ls))) ∧
                                                                                                    Int.ofNat 0 ≤ 1 ∧
                                                                                                      (1 : Int) < ↑(List.length (prow ls (min 15 (List.length ls)))) ∧
                                                                                                        some 3 = some 3 ∧
                                                                                                          List.length (prow ls (min 15 (List.length ls))) = List.length (prow ls (min 15 (List.length ls))) ∧
                                                                                                            [1] ≠ [] ∧
                                                                                                              offQ (V.agg (prow ls (min 15 (List.length ls)))) [1] = 3 ∧
                                                                                                                (∃ u90, subQ (V.agg (prow ls (min 15 (List.length ls)))) [1] = some u90 ∧ V.sz (V.agg [V.int IntKind.i64 5, V.int IntKind.i64 0, V.list false []]) = V.sz u90 ∧ V.sz (V.agg [V.int IntKind.i64 5, V.int IntKind.i64 0, V.list false []]) = V.sz u90) ∧
                                                                                                                  ∃ rows'91,
                                                                                                                    V.agg rows'91 = updQ (V.agg [V.int IntKind.i64 5, V.int IntKind.i64 0, V.list false []]) (V.agg (prow ls (min 15 (List.length ls)))) [1] ∧
                                                                                                                      List.length (prow ls (min 15 (List.length ls))) = List.length rows'91 ∧
                                                                                                                        ((∀ (v92 : V), List.Mem v92 [V.agg [V.int IntKind.i64 3, V.int IntKind.i64 0, V.list false []], V.agg [V.int IntKind.i64 5, V.int IntKind.i64 1, V.list false []], V.agg [V.int IntKind.i64 7, V.int IntKind.i64 0, V.list false rows'91]] → V.sz v92 = 3) ∧
                                                                                                                            List.length [V.agg [V.int IntKind.i64 3, V.int IntKind.i64 0, V.list false []], V.agg [V.int IntKind.i64 5, V.int IntKind.i64 1, V.list false []], V.agg [V.int IntKind.i64 7, V.int IntKind.i64 0, V.list false rows'91]] ≤ 1000) ∧
                                                                                                                          (∀ (u94 : V), List.Mem u94 [V.agg [V.int IntKind.i64 3, V.int IntKind.i64 0, V.list false []], V.agg [V.int IntKind.i64 5, V.int IntKind.i64 1, V.list false []], V.agg [V.int IntKind.i64 7, V.int IntKind.i64 0, V.list false rows'91]] → Typed Try.prog 140737488351232 28 u94) ∧
                                                                                                                            ∀ (x96 : Bool),
                                                                                                                              x96 = !fitsG 33 [V.agg [V.int IntKind.i64 3, V.int IntKind.i64 0, V.list false []], V.agg [V.int IntKind.i64 5, V.int IntKind.i64 1, V.list false []], V.agg [V.int IntKind.i64 7, V.int IntKind.i64 0, V.list false rows'91]] →
                                                                                                                                (x96 = true → r = V.bool true) ∧ (x96 = false → r = V.bool false)) ∧
                                                                                                (x87 = false →
                                                                                                  List.length (prow ls (min 15 (List.length ls))) = List.length (prow ls (min 15 (List.length ls))) ∧
                                                                                                    Int.ofNat 0 ≤ 0 ∧
                                                                                                      (0 : Int) < ↑(List.length (prow ls (min 15 (List.length ls)))) ∧
                                                                                                        some 3 = some 3 ∧
                                                                                                          List.length (prow ls (min 15 (List.length ls))) = List.length (prow ls (min 15 (List.length ls))) ∧
                                                                                                            [0] ≠ [] ∧
                                                                                                              offQ (V.agg (prow ls (min 15 (List.length ls)))) [0] = 0 ∧
                                                                                                                (∃ u101, subQ (V.agg (prow ls (min 15 (List.length ls)))) [0] = some u101 ∧ V.sz (V.agg [V.int IntKind.i64 3, V.int IntKind.i64 1, V.list false []]) = V.sz u101 ∧ V.sz (V.agg [V.int IntKind.i64 3, V.int IntKind.i64 1, V.list false []]) = V.sz u101) ∧
                                                                                                                  ∃ rows'102,
                                                                                                                    V.agg rows'102 = updQ (V.agg [V.int IntKind.i64 3, V.int IntKind.i64 1, V.list false []]) (V.agg (prow ls (min 15 (List.length ls)))) [0] ∧
                                                                                                                      List.length (prow ls (min 15 (List.length ls))) = List.length rows'102 ∧
                                                                                                                        ((∀ (v103 : V), List.Mem v103 [V.agg [V.int IntKind.i64 3, V.int IntKind.i64 0, V.list false []], V.agg [V.int IntKind.i64 5, V.int IntKind.i64 1, V.list false []], V.agg [V.int IntKind.i64 7, V.int IntKind.i64 0, V.list false rows'102]] → V.sz v103 = 3) ∧
                                                                                                                            List.length [V.agg [V.int IntKind.i64 3, V.int IntKind.i64 0, V.list false []], V.agg [V.int IntKind.i64 5, V.int IntKind.i64 1, V.list false []], V.agg [V.int IntKind.i64 7, V.int IntKind.i64 0, V.list false rows'102]] ≤ 1000) ∧
                                                                                                                          (∀ (u105 : V), List.Mem u105 [V.agg [V.int IntKind.i64 3, V.int IntKind.i64 0, V.list false []], V.agg [V.int IntKind.i64 5, V.int IntKind.i64 1, V.list false []], V.agg [V.int IntKind.i64 7, V.int IntKind.i64 0, V.list false rows'102]] → Typed Try.prog 140737488351232 28 u105) ∧
                                                                                                                            ∀ (x107 : Bool),
                                                                                                                              x107 = !fitsG 33 [V.agg [V.int IntKind.i64 3, V.int IntKind.i64 0, V.list false []], V.agg [V.int IntKind.i64 5, V.int IntKind.i64 1, V.list false []], V.agg [V.int IntKind.i64 7, V.int IntKind.i64 0, V.list false rows'102]] →
                                                                                                                                (x107 = true → r = V.bool true) ∧ (x107 = false → r = V.bool false)))))))))))) := by kernel_rfl
end GoL
