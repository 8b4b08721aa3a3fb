/- A part of the proof: a logic for programs of this kind, proved sound over the model; contracts of functions; plain laws. -/
import Derived.Test.YtjnagpmhkpkngaaED
set_option linter.all false
open Go Go.Proofs
namespace GoL
set_option linter.unusedVariables false
set_option maxRecDepth 100000
theorem n31 (S : List V → Prop) (t n : Int) (ls : List V) (r : V) : wC Try.prog (sp31 S) 11 noHint (prsOf [(1, [[], [0], [], [2], [], [4], [5, 4], [1, 0, 3, 2, 6, 5, 4], [7, 1, 0, 3, 2, 6, 5, 4]])]) noLs 0 (bodyOf Try.f31) 1000 (initL [.agg [.int .i64 t, .int .i64 n, .list false ls]] 0) [] (finK Try.prog none Try.f31.results.toList r) = (
  S ls ∧ r = V.agg [V.int IntKind.i64 t, V.int IntKind.i64 n, V.list false ls]) := by kernel_rfl
theorem nl23_0 (S : List V → Prop) (xs ys : List V) (i : Int) (Nx Ex Rt : List V → List Blk → Prop) : wC Try.prog (sp23 S) 20 noHint (prsOf []) noLs 0 (lcode Try.f23 0).2 1001 (List.zip [0, 3, 4] [.list false xs, .sl 1000 ys.length, .int .i64 i]) (List.zip [1000] [⟨some 28, false, .agg ys⟩]) (endK ends23_0 Nx Ex Rt) = (
  List.length xs ≤ 9223372036854775807 →
    ∀ (x1 : Int),
      x1 = ↑(List.length xs) →
        ∀ (x3 : Bool),
          x3 = decide (i < x1) →
            (x3 = true →
                0 ≤ i ∧
                  i < ↑(List.length xs) ∧
                    ∃ n6 n7 l8,
                      getV xs i = V.agg [V.int IntKind.i64 n6, V.int IntKind.i64 n7, V.list false l8] ∧
                        S l8 ∧
                          (List.length ys = List.length ys ∧
                              28 = 28 ∧
                                ((true || false) = true ∧ True) ∧
                                  (∀ (v9 : V), List.Mem v9 [V.agg [V.int IntKind.i64 n6, V.int IntKind.i64 n7, V.list false l8]] → V.sz v9 = 3) ∧
                                    some 3 = some 3 ∧ true = true ∧ ∃ b11, some 40 = some b11 ∧ (List.length ys + List.length [V.agg [V.int IntKind.i64 n6, V.int IntKind.i64 n7, V.list false l8]]) * b11 ≤ 140737488355328 ∧ List.length ys + List.length [V.agg [V.int IntKind.i64 n6, V.int IntKind.i64 n7, V.list false l8]] ≤ 9223372036854775807) ∧
                            (True →
                              ∀ (x13 : Int),
                                x13 = IntKind.wrap IntKind.i64 (i + 1) →
                                  NoIds (ys ++ [V.agg [V.int IntKind.i64 n6, V.int IntKind.i64 n7, V.list false l8]]) ∧
                                    Nx [V.list false xs, V.sl 1000 (List.length ys + List.length [V.agg [V.int IntKind.i64 n6, V.int IntKind.i64 n7, V.list false l8]]), V.int IntKind.i64 x13] [{ arr := some 28, fz := false, t := V.agg (ys ++ [V.agg [V.int IntKind.i64 n6, V.int IntKind.i64 n7, V.list false l8]]) }])) ∧
              (x3 = false → NoIds ys ∧ Ex [V.sl 1000 (List.length ys)] [{ arr := some 28, fz := false, t := V.agg ys }])) := by kernel_rfl
theorem n23 (S : List V → Prop) (x0 xs : List V) (r : V) : wC Try.prog (sp23 S) 20 noHint (prsOf []) (ls23 x0) 0 (bodyOf Try.f23) 1000 (initL [.list false xs] 0) [] (finK Try.prog none Try.f23.results.toList r) = (
  xs = x0 ∧ Int.ofNat 0 = 0 ∧ List.length xs = List.length xs ∧ r = V.list false xs) := by kernel_rfl
theorem n5 (op : Int) (xs : List V) (x : Int) (r : V) : wC Try.prog sp5 53 noHint (prsOf [(3, [[], [0], [], [2], [3, 2], [1, 0, 4, 3, 2], [], [6, 5, 1, 0, 4, 3, 2]]), (4, [[], [0], [], [2, 1, 0], [1, 0, 3, 2], [4, 1, 0, 3, 2], [5, 4, 1, 0, 3, 2], [6, 5, 4, 1, 0, 3, 2], [5, 4, 1, 0, 3, 2], [8, 5, 4, 1, 0, 3, 2, 7, 6], [7, 6, 5, 4, 1, 0, 3, 2, 9, 8], [5, 4, 1, 0, 3, 2, 10, 7, 6, 9, 8], [11, 5, 4, 1, 0, 3, 2, 10, 7, 6, 9, 8], [12, 11, 5, 4, 1, 0, 3, 2, 10, 7, 6, 9, 8], [13, 12, 11, 5, 4, 1, 0, 3, 2, 10, 7, 6, 9, 8], [12, 11, 5, 4, 1, 0, 3, 2, 10, 7, 6, 9, 8], [15, 12, 11, 5, 4, 1, 0, 3, 2, 10, 7, 6, 9, 8, 14, 13], [14, 13, 12, 11, 5, 4, 1, 0, 3, 2, 10, 7, 6, 9, 8, 16, 15], [12, 11, 5, 4, 1, 0, 3, 2, 10, 7, 6, 9, 8, 17, 14, 13, 16, 15], [18, 12, 11, 5, 4, 1, 0, 3, 2, 10, 7, 6, 9, 8, 17, 14, 13, 16, 15], [19, 18, 12, 11, 5, 4, 1, 0, 3, 2, 10, 7, 6, 9, 8, 17, 14, 13, 16, 15], [20, 19, 18, 12, 11, 5, 4, 1, 0, 3, 2, 10, 7, 6, 9, 8, 17, 14, 13, 16, 15], [19, 18, 12, 11, 5, 4, 1, 0, 3, 2, 10, 7, 6, 9, 8, 17, 14, 13, 16, 15], [22, 19, 18, 12, 11, 5, 4, 1, 0, 3, 2, 10, 7, 6, 9, 8, 17, 14, 13, 16, 15, 21, 20], [21, 20, 19, 18, 12, 11, 5, 4, 1, 0, 3, 2, 10, 7, 6, 9, 8, 17, 14, 13, 16, 15, 23, 22], [19, 18, 12, 11, 5, 4, 1, 0, 3, 2, 10, 7, 6, 9, 8, 17, 14, 13, 16, 15, 24, 21, 20, 23, 22], [25, 19, 18, 12, 11, 5, 4, 1, 0, 3, 2, 10, 7, 6, 9, 8, 17, 14, 13, 16, 15, 24, 21, 20, 23, 22], [26, 25, 19, 18, 12, 11, 5, 4, 1, 0, 3, 2, 10, 7, 6, 9, 8, 17, 14, 13, 16, 15, 24, 21, 20, 23, 22], [27, 26, 25, 19, 18, 12, 11, 5, 4, 1, 0, 3, 2, 10, 7, 6, 9, 8, 17, 14, 13, 16, 15, 24, 21, 20, 23, 22], [26, 25, 19, 18, 12, 11, 5, 4, 1, 0, 3, 2, 10, 7, 6, 9, 8, 17, 14, 13, 16, 15, 24, 21, 20, 23, 22], [29, 26, 25, 19, 18, 12, 11, 5, 4, 1, 0, 3, 2, 10, 7, 6, 9, 8, 17, 14, 13, 16, 15, 24, 21, 20, 23, 22, 28, 27], [28, 27, 26, 25, 19, 18, 12, 11, 5, 4, 1, 0, 3, 2, 10, 7, 6, 9, 8, 17, 14, 13, 16, 15, 24, 21, 20, 23, 22, 30, 29], [26, 25, 19, 18, 12, 11, 5, 4, 1, 0, 3, 2, 10, 7, 6, 9, 8, 17, 14, 13, 16, 15, 24, 21, 20, 23, 22, 31, 28, 27, 30, 29], [32, 26, 25, 19, 18, 12, 11, 5, 4, 1, 0, 3, 2, 10, 7, 6, 9, 8, 17, 14, 13, 16, 15, 24, 21, 20, 23, 22, 31, 28, 27, 30, 29], [33, 32, 26, 25, 19, 18, 12, 11, 5, 4, 1, 0, 3, 2, 10, 7, 6, 9, 8, 17, 14, 13, 16, 15, 24, 21, 20, 23, 22, 31, 28, 27, 30, 29], [33, 32, 26, 25, 19, 18, 12, 11, 5, 4, 1, 0, 3, 2, 10, 7, 6, 9, 8, 17, 14, 13, 16, 15, 24, 21, 20, 23, 22, 31, 28, 27, 30, 29, 34], [35, 33, 32, 26, 25, 19, 18, 12, 11, 5, 4, 1, 0, 3, 2, 10, 7, 6, 9, 8, 17, 14, 13, 16, 15, 24, 21, 20, 23, 22, 31, 28, 27, 30, 29, 34]])]) noLs 0 (bodyOf Try.f5) 1000 (initL [.agg [.int .i64 op, .list false xs], .int .i64 x] 0) [] (finK Try.prog none Try.f5.results.toList r) = (
  TyL xs ∧
    ∀ (x0 : Bool),
      x0 = !fewV xs 3 →
        (x0 = true → r = V.bool true) ∧
          (x0 = false →
            (TyL xs ∧ Few xs) ∧
              (∀ (u4 : V), List.Mem u4 xs → Typed Try.prog 140737488351232 28 u4) ∧
                (∀ (u6 : V), List.Mem u6 xs → Typed Try.prog 140737488351232 28 u6) ∧
                  ∀ (x8 : Bool),
                    x8 = (fitsG op xs == fitsR op xs) →
                      (x8 = true →
                          (∀ (u11 : V), List.Mem u11 xs → Typed Try.prog 140737488351232 28 u11) ∧
                            (∀ (u13 : V), List.Mem u13 xs → Typed Try.prog 140737488351232 28 u13) ∧
                              ∀ (x15 : Bool),
                                x15 = (thr (fitsG op xs) op xs == thr (fitsR op xs) op xs) →
                                  (x15 = true → ∀ (x18 : Bool), x18 = (sigS x == sig9 x) → (x18 = true → ∀ (x21 : Bool), x21 = (name9 x == name9 x) → (x21 = true → ∀ (x24 : Bool), x24 = (endS x == endS x) → (x24 = true → r = V.bool true) ∧ (x24 = false → r = V.bool false)) ∧ (x21 = false → r = V.bool false)) ∧ (x18 = false → r = V.bool false)) ∧ (x15 = false → r = V.bool false)) ∧
                        (x8 = false → r = V.bool false))) := by kernel_rfl
end GoL
