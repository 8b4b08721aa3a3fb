/- A part of the proof: a logic for programs of this kind, proved sound over the model; contracts of functions; plain laws. -/
import Derived.Test.YtjnagpmhkpkngaaFD
set_option linter.all false
open Go Go.Proofs
namespace GoL
set_option linter.unusedVariables false
set_option maxRecDepth 100000
theorem n23h (S : List V → Prop) (x0 xs : List V) (r : V) (ks : List Blk) : wC Try.prog (sp23 S) 20 noHint (prsOf []) (ls23 x0) 0 (bodyOf Try.f23) 1000 (initL [.list false xs] 0) [] (finH Try.prog none Try.f23.results.toList [1000] fun v bs => r = v ∧ ks = bs) = (
  xs = x0 ∧ Int.ofNat 0 = 0 ∧ r = V.sl 1000 (List.length xs) ∧ ks = [{ arr := some 28, fz := false, t := V.agg xs }]) := by kernel_rfl
theorem n6 (op : Int) (xs : List V) (x y : Int) (r : V) : wC Try.prog sp6 78 (hintOf [(7009, 1), (14999, 1015)]) (prsOf [(3, [[], [0], [], [2], [3, 2], [1, 0, 4, 3, 2], [], [6, 5, 1, 0, 4, 3, 2]]), (9, [[], [0], [], [2], [1, 0, 3, 2], [0, 1, 2, 3, 4], [5, 0, 1, 2, 3, 4]]), (7, [[], [0], [], [], [3], [4, 3], [2, 5, 4, 3], [], [1, 0, 6, 2, 5, 4, 3, 7], [8, 1, 0, 6, 2, 5, 4, 3, 7]])]) noLs 0 (bodyOf Try.f6) 1000 (initL [.agg [.int .i64 op, .list false xs], .int .i64 x, .int .i64 y] 0) [] (finK Try.prog none Try.f6.results.toList r) = (
  TyL xs ∧
    ∀ (x0 : Bool),
      x0 = !fewV xs 3 →
        (x0 = true → r = V.bool true) ∧
          (x0 = false →
            (∀ (u4 : V), List.Mem u4 xs → Typed Try.prog 140737488351232 28 u4) ∧
              ∀ (x6 : Bool),
                x6 = !fitsR op xs →
                  (x6 = true → r = V.bool true) ∧
                    (x6 = false →
                      (TyL xs ∧ Few xs) ∧
                        Int.ofNat 3 ≠ 0 ∧
                          ∀ (x10 : Bool),
                            x10 = (place x 3 == 0) →
                              (x10 = true →
                                  (List.length xs = List.length xs ∧
                                      28 = 28 ∧
                                        ((true || false) = true ∧ True) ∧
                                          (∀ (v13 : V), List.Mem v13 [V.agg [V.int IntKind.i64 0, V.int IntKind.i64 0, V.list false []]] → V.sz v13 = 3) ∧
                                            some 3 = some 3 ∧ true = true ∧ ∃ b15, some 40 = some b15 ∧ (List.length xs + List.length [V.agg [V.int IntKind.i64 0, V.int IntKind.i64 0, V.list false []]]) * b15 ≤ 140737488355328 ∧ List.length xs + List.length [V.agg [V.int IntKind.i64 0, V.int IntKind.i64 0, V.list false []]] ≤ 9223372036854775807) ∧
                                    (∀ (u16 : V), List.Mem u16 xs → Typed Try.prog 140737488351232 28 u16) ∧
                                      (fitsG op xs = true →
                                          List.length xs + List.length [V.agg [V.int IntKind.i64 0, V.int IntKind.i64 0, V.list false []]] = List.length (xs ++ [V.agg [V.int IntKind.i64 0, V.int IntKind.i64 0, V.list false []]]) ∧
                                            (∀ (u19 : V), List.Mem u19 (xs ++ [V.agg [V.int IntKind.i64 0, V.int IntKind.i64 0, V.list false []]]) → Typed Try.prog 140737488351232 28 u19) ∧
                                              ∀ (x21 : Bool),
                                                x21 = !fitsG op (xs ++ [V.agg [V.int IntKind.i64 0, V.int IntKind.i64 0, V.list false []]]) →
                                                  (x21 = true →
                                                      List.length xs + List.length [V.agg [V.int IntKind.i64 0, V.int IntKind.i64 0, V.list false []]] = List.length (xs ++ [V.agg [V.int IntKind.i64 0, V.int IntKind.i64 0, V.list false []]]) ∧
                                                        (∀ (u24 : V), List.Mem u24 (xs ++ [V.agg [V.int IntKind.i64 0, V.int IntKind.i64 0, V.list false []]]) → Typed Try.prog 140737488351232 28 u24) ∧
                                                          ∀ (x26 : Bool), x26 = !thr (fitsG op (xs ++ [V.agg [V.int IntKind.i64 0, V.int IntKind.i64 0, V.list false []]])) op (xs ++ [V.agg [V.int IntKind.i64 0, V.int IntKind.i64 0, V.list false []]]) → (x26 = true → r = V.bool true) ∧ (x26 = false → r = V.bool false)) ∧
                                                    (x21 = false → r = V.bool false)) ∧
                                        (fitsG op xs = false → r = V.bool false)) ∧
                                (x10 = false →
                                  ∀ (x33 : Bool),
                                    x33 = (place x 3 == 1) →
                                      (x33 = true →
                                          List.length xs = List.length xs ∧
                                            (List.length xs ≤ 9223372036854775807 →
                                              ∀ (x37 : Int),
                                                x37 = ↑(List.length xs) →
                                                  ∀ (x39 : Bool),
                                                    x39 = (x37 == 0) →
                                                      (x39 = true → r = V.bool true) ∧
                                                        (x39 = false →
                                                          List.length xs = List.length xs ∧
                                                            (List.length xs ≤ 9223372036854775807 →
                                                              ∀ (x44 : Int),
                                                                x44 = ↑(List.length xs) →
                                                                  ∀ (x46 : Int),
                                                                    x46 = IntKind.wrap IntKind.i64 (x44 - 1) →
                                                                      (List.length xs = List.length xs ∧ false = false ∧ True ∧ True ∧ True ∧ ((none : Option V) ≠ none → some (V.int IntKind.i64 x46) ≠ none ∧ Int.ofNat 0 = x46) ∧ 0 ≤ Int.ofNat 0 ∧ Int.ofNat 0 ≤ x46 ∧ x46 ≤ ↑(List.length xs) ∧ some 3 = some 3 ∧ ∀ (v49 : V), List.Mem v49 xs → V.sz v49 = 3) ∧
                                                                        (True →
                                                                          ∀ (x52 : List V),
                                                                            x52 = List.take (Int.toNat (x46 - Int.ofNat 0)) xs →
                                                                              (∀ (u54 : V), List.Mem u54 xs → Typed Try.prog 140737488351232 28 u54) ∧
                                                                                (fitsG op xs = true →
                                                                                    (∀ (u57 : V), List.Mem u57 x52 → Typed Try.prog 140737488351232 28 u57) ∧
                                                                                      ∀ (x59 : Bool), x59 = !fitsG op x52 → (x59 = true → (∀ (u62 : V), List.Mem u62 x52 → Typed Try.prog 140737488351232 28 u62) ∧ ∀ (x64 : Bool), x64 = !thr (fitsG op x52) op x52 → (x64 = true → r = V.bool true) ∧ (x64 = false → r = V.bool false)) ∧ (x59 = false → r = V.bool false)) ∧
                                                                                  (fitsG op xs = false → r = V.bool false)))))) ∧
                                        (x33 = false →
                                          List.length xs = List.length xs ∧
                                            (List.length xs ≤ 9223372036854775807 →
                                              ∀ (x72 : Int),
                                                x72 = ↑(List.length xs) →
                                                  ∀ (x74 : Bool),
                                                    x74 = (x72 == 0) →
                                                      (x74 = true → r = V.bool true) ∧
                                                        (x74 = false →
                                                          List.length xs = List.length xs ∧
                                                            ∀ (x78 : Int),
                                                              x78 = ↑(List.length xs) →
                                                                x78 ≠ 0 ∧
                                                                  List.length xs = List.length xs ∧
                                                                    0 ≤ place y x78 ∧
                                                                      place y x78 < ↑(List.length xs) ∧
                                                                        some 3 = some 3 ∧
                                                                          List.length xs = List.length xs ∧
                                                                            [Int.toNat (place y x78)] ≠ [] ∧
                                                                              offQ (V.agg xs) [Int.toNat (place y x78)] = Int.toNat (place y x78) * 3 ∧
                                                                                (∃ u80, subQ (V.agg xs) [Int.toNat (place y x78)] = some u80 ∧ V.sz (V.agg [V.int IntKind.i64 8, V.int IntKind.i64 0, V.list false []]) = V.sz u80 ∧ V.sz (V.agg [V.int IntKind.i64 8, V.int IntKind.i64 0, V.nils]) = V.sz u80) ∧
                                                                                  ∃ rows'81,
                                                                                    V.agg rows'81 = updQ (V.agg [V.int IntKind.i64 8, V.int IntKind.i64 0, V.list false []]) (V.agg xs) [Int.toNat (place y x78)] ∧
                                                                                      (∀ (u82 : V), List.Mem u82 xs → Typed Try.prog 140737488351232 28 u82) ∧
                                                                                        (fitsG op xs = true →
                                                                                            List.length xs = List.length rows'81 ∧
                                                                                              (∀ (u85 : V), List.Mem u85 rows'81 → Typed Try.prog 140737488351232 28 u85) ∧
                                                                                                ∀ (x87 : Bool),
                                                                                                  x87 = !fitsG op rows'81 →
                                                                                                    (x87 = true → List.length xs = List.length rows'81 ∧ (∀ (u90 : V), List.Mem u90 rows'81 → Typed Try.prog 140737488351232 28 u90) ∧ ∀ (x92 : Bool), x92 = !thr (fitsG op rows'81) op rows'81 → (x92 = true → r = V.bool true) ∧ (x92 = false → r = V.bool false)) ∧ (x87 = false → r = V.bool false)) ∧
                                                                                          (fitsG op xs = false → r = V.bool false)))))))) := by kernel_rfl
end GoL
