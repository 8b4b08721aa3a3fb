/- A part of the proof: a logic for programs of this kind, proved sound over the model; contracts of functions; plain laws. -/
import Derived.Test.YtkkmiicadfmfdaaWD
set_option linter.all false
open Go Go.Proofs
namespace GoL
set_option linter.unusedVariables false
set_option maxRecDepth 100000
theorem n4 (ls : List V) (x y : Int) (r : V) : wC Try.prog sp4 102 (hintOf [(19007, 1)]) (prsOf []) noLs 0 (bodyOf Try.f4) 1000 (initL [.list false ls, .int .i64 x, .int .i64 y] 0) [] (finK Try.prog none Try.f4.results.toList r) = (
  CLs ls ∧
    ∀ (x0 : Bool),
      x0 = !decJ (fewP ls) →
        (x0 = true → r = V.bool true) ∧
          (x0 = false →
            FitC ls ∧
              (mkE ls = 0 →
                  ∀ (rows5 : List V),
                    rows5 =
                        V.int IntKind.u8 70 ::
                          V.int IntKind.u8 79 ::
                            V.int IntKind.u8 82 ::
                              V.int IntKind.u8 49 ::
                                V.int IntKind.u8 (IntKind.wrap IntKind.u8 (Int.fdiv (4 + sumC ls) 16777216)) ::
                                  V.int IntKind.u8 (IntKind.wrap IntKind.u8 (Int.fdiv (4 + sumC ls) 65536)) :: V.int IntKind.u8 (IntKind.wrap IntKind.u8 (Int.fdiv (4 + sumC ls) 256)) :: V.int IntKind.u8 (IntKind.wrap IntKind.u8 (4 + sumC ls)) :: V.int IntKind.u8 66 :: V.int IntKind.u8 69 :: V.int IntKind.u8 65 :: V.int IntKind.u8 77 :: mkRows ls →
                      ∀ (x7 : Bool),
                        x7 = (0 != 0) →
                          (x7 = true → ∀ (x10 : Bool), x10 = (0 != 0) → (x10 = true → r = V.bool true) ∧ (x10 = false → r = V.bool false)) ∧
                            (x7 = false →
                              List.length rows5 = List.length rows5 ∧
                                (List.length rows5 ≤ 9223372036854775807 →
                                  ∀ (x16 : Int),
                                    x16 = ↑(List.length rows5) →
                                      ∀ (x18 : Bool),
                                        x18 = decide (x16 < 12) →
                                          (x18 = true → ∀ (x21 : Bool), x21 = (0 != 0) → (x21 = true → r = V.bool true) ∧ (x21 = false → r = V.bool false)) ∧
                                            (x18 = false →
                                              Int.ofNat 4 ≠ 0 ∧
                                                ∀ (x26 : Bool),
                                                  x26 = (place x 4 == 0) →
                                                    (x26 = true →
                                                        List.length rows5 = List.length rows5 ∧
                                                          (List.length rows5 ≤ 9223372036854775807 →
                                                            ∀ (x30 : Int),
                                                              x30 = ↑(List.length rows5) →
                                                                x30 ≠ 0 ∧
                                                                  (List.length rows5 = List.length rows5 ∧ false = false ∧ True ∧ True ∧ True ∧ ((none : Option V) ≠ none → some (V.int IntKind.i64 (place y x30)) ≠ none ∧ Int.ofNat 0 = place y x30) ∧ 0 ≤ Int.ofNat 0 ∧ Int.ofNat 0 ≤ place y x30 ∧ place y x30 ≤ ↑(List.length rows5) ∧ some 1 = some 1 ∧ ∀ (v33 : V), List.Mem v33 rows5 → V.sz v33 = 1) ∧
                                                                    (True →
                                                                      ∀ (x36 : List V),
                                                                        x36 = List.take (Int.toNat (place y x30 - Int.ofNat 0)) rows5 →
                                                                          List.length x36 ≤ 9223372036854775807 →
                                                                            ∀ (x39 : Int),
                                                                              x39 = ↑(List.length x36) →
                                                                                ∀ (x41 : Bool),
                                                                                  x41 = decide (x39 < 12) →
                                                                                    (x41 = true →
                                                                                        BLs x36 ∧
                                                                                          ∀ (l44 : List V) (e45 : Int),
                                                                                            parseS x36 = (l44, e45) → ∀ (x47 : Bool), x47 = (e45 == 3) → (x47 = true → List.length l44 ≤ 9223372036854775807 → ∀ (x51 : Int), x51 = ↑(List.length l44) → ∀ (x53 : Bool), x53 = (x51 == 0) → (x53 = true → r = V.bool true) ∧ (x53 = false → r = V.bool false)) ∧ (x47 = false → r = V.bool false)) ∧
                                                                                      (x41 = false →
                                                                                        BLs x36 ∧
                                                                                          ∀ (l59 : List V) (e60 : Int),
                                                                                            parseS x36 = (l59, e60) → ∀ (x62 : Bool), x62 = (e60 == 5) → (x62 = true → List.length l59 ≤ 9223372036854775807 → ∀ (x66 : Int), x66 = ↑(List.length l59) → ∀ (x68 : Bool), x68 = (x66 == 0) → (x68 = true → r = V.bool true) ∧ (x68 = false → r = V.bool false)) ∧ (x62 = false → r = V.bool false))))) ∧
                                                      (x26 = false →
                                                        ∀ (x74 : Bool),
                                                          x74 = (place x 4 == 1) →
                                                            (x74 = true →
                                                                (List.length rows5 = List.length rows5 ∧
                                                                    5 = 5 ∧
                                                                      ((true || false) = true ∧ 4 = List.length [V.int IntKind.u8 0, V.int IntKind.u8 0, V.int IntKind.u8 0, V.int IntKind.u8 0]) ∧
                                                                        (∀ (v77 : V), List.Mem v77 [V.int IntKind.u8 0, V.int IntKind.u8 0, V.int IntKind.u8 0, V.int IntKind.u8 0] → V.sz v77 = 1) ∧
                                                                          some 1 = some 1 ∧
                                                                            true = true ∧ ∃ b79, some 1 = some b79 ∧ (List.length rows5 + List.length [V.int IntKind.u8 0, V.int IntKind.u8 0, V.int IntKind.u8 0, V.int IntKind.u8 0]) * b79 ≤ 140737488355328 ∧ List.length rows5 + List.length [V.int IntKind.u8 0, V.int IntKind.u8 0, V.int IntKind.u8 0, V.int IntKind.u8 0] ≤ 9223372036854775807) ∧
                                                                  (True →
                                                                    List.length rows5 + List.length [V.int IntKind.u8 0, V.int IntKind.u8 0, V.int IntKind.u8 0, V.int IntKind.u8 0] = List.length (rows5 ++ [V.int IntKind.u8 0, V.int IntKind.u8 0, V.int IntKind.u8 0, V.int IntKind.u8 0]) ∧
                                                                      BLs (rows5 ++ [V.int IntKind.u8 0, V.int IntKind.u8 0, V.int IntKind.u8 0, V.int IntKind.u8 0]) ∧
                                                                        ∀ (l81 : List V) (e82 : Int),
                                                                          parseS (rows5 ++ [V.int IntKind.u8 0, V.int IntKind.u8 0, V.int IntKind.u8 0, V.int IntKind.u8 0]) = (l81, e82) →
                                                                            ∀ (x84 : Bool), x84 = (e82 == 5) → (x84 = true → List.length l81 ≤ 9223372036854775807 → ∀ (x88 : Int), x88 = ↑(List.length l81) → ∀ (x90 : Bool), x90 = (x88 == 0) → (x90 = true → r = V.bool true) ∧ (x90 = false → r = V.bool false)) ∧ (x84 = false → r = V.bool false))) ∧
                                                              (x74 = false →
                                                                ∀ (x96 : Bool),
                                                                  x96 = (place x 4 == 2) →
                                                                    (x96 = true →
                                                                        Int.ofNat 4 ≠ 0 ∧
                                                                          List.length rows5 = List.length rows5 ∧
                                                                            0 ≤ place y 4 ∧
                                                                              place y 4 < ↑(List.length rows5) ∧
                                                                                some 1 = some 1 ∧
                                                                                  ∃ n99,
                                                                                    subQ (V.agg rows5) [Int.toNat (place y 4)] = some (V.int IntKind.u8 n99) ∧
                                                                                      List.length rows5 = List.length rows5 ∧
                                                                                        offQ (V.agg rows5) [Int.toNat (place y 4)] = Int.toNat (place y 4) * 1 ∧
                                                                                          ∀ (x100 : Int),
                                                                                            x100 = bits BinOp.xor IntKind.u8 n99 1 →
                                                                                              List.length rows5 = List.length rows5 ∧
                                                                                                0 ≤ place y 4 ∧
                                                                                                  place y 4 < ↑(List.length rows5) ∧
                                                                                                    some 1 = some 1 ∧
                                                                                                      List.length rows5 = List.length rows5 ∧
                                                                                                        [Int.toNat (place y 4)] ≠ [] ∧
                                                                                                          offQ (V.agg rows5) [Int.toNat (place y 4)] = Int.toNat (place y 4) * 1 ∧
                                                                                                            (∃ u102, subQ (V.agg rows5) [Int.toNat (place y 4)] = some u102 ∧ V.sz (V.int IntKind.u8 x100) = V.sz u102 ∧ V.sz (V.int IntKind.u8 x100) = V.sz u102) ∧
                                                                                                              ∃ rows'103,
                                                                                                                V.agg rows'103 = updQ (V.int IntKind.u8 x100) (V.agg rows5) [Int.toNat (place y 4)] ∧
                                                                                                                  List.length rows5 = List.length rows'103 ∧
                                                                                                                    BLs rows'103 ∧
                                                                                                                      ∀ (l104 : List V) (e105 : Int),
                                                                                                                        parseS rows'103 = (l104, e105) →
                                                                                                                          ∀ (x107 : Bool),
                                                                                                                            x107 = (e105 == 5) → (x107 = true → List.length l104 ≤ 9223372036854775807 → ∀ (x111 : Int), x111 = ↑(List.length l104) → ∀ (x113 : Bool), x113 = (x111 == 0) → (x113 = true → r = V.bool true) ∧ (x113 = false → r = V.bool false)) ∧ (x107 = false → r = V.bool false)) ∧
                                                                      (x96 = false →
                                                                        List.length ls ≤ 9223372036854775807 →
                                                                          ∀ (x120 : Int),
                                                                            x120 = ↑(List.length ls) →
                                                                              ∀ (x122 : Bool),
                                                                                x122 = (x120 == 0) →
                                                                                  (x122 = true → r = V.bool true) ∧
                                                                                    (x122 = false →
                                                                                      (((true || false) = true ∧ True) ∧ (∀ (v126 : V), List.Mem v126 ls → V.sz v126 = 2) ∧ some 2 = some 2 ∧ true = true ∧ ∃ b128, some 32 = some b128 ∧ List.length ls * b128 ≤ 140737488355328 ∧ List.length ls ≤ 9223372036854775807) ∧
                                                                                        (True →
                                                                                          List.length ls ≤ 9223372036854775807 →
                                                                                            ∀ (x131 : Int),
                                                                                              x131 = ↑(List.length ls) →
                                                                                                x131 ≠ 0 ∧
                                                                                                  0 ≤ place y x131 ∧
                                                                                                    place y x131 < ↑(List.length ls) ∧
                                                                                                      ∃ s133 s134,
                                                                                                        getV ls (place y x131) = V.agg [V.str s133, V.str s134] ∧
                                                                                                          (List.length ls = List.length ls ∧
                                                                                                              36 = 36 ∧
                                                                                                                ((true || false) = true ∧ True) ∧
                                                                                                                  (∀ (v135 : V), List.Mem v135 [V.agg [V.str s133, V.str s134]] → V.sz v135 = 2) ∧
                                                                                                                    some 2 = some 2 ∧ true = true ∧ ∃ b137, some 32 = some b137 ∧ (List.length ls + List.length [V.agg [V.str s133, V.str s134]]) * b137 ≤ 140737488355328 ∧ List.length ls + List.length [V.agg [V.str s133, V.str s134]] ≤ 9223372036854775807) ∧
                                                                                                            (True →
                                                                                                              List.length ls + List.length [V.agg [V.str s133, V.str s134]] = List.length (ls ++ [V.agg [V.str s133, V.str s134]]) ∧
                                                                                                                FitC (ls ++ [V.agg [V.str s133, V.str s134]]) ∧
                                                                                                                  (mkE (ls ++ [V.agg [V.str s133, V.str s134]]) = 0 →
                                                                                                                      ∀ (rows140 : List V),
                                                                                                                        rows140 =
                                                                                                                            V.int IntKind.u8 70 ::
                                                                                                                              V.int IntKind.u8 79 ::
                                                                                                                                V.int IntKind.u8 82 ::
                                                                                                                                  V.int IntKind.u8 49 ::
                                                                                                                                    V.int IntKind.u8 (IntKind.wrap IntKind.u8 (Int.fdiv (4 + sumC (ls ++ [V.agg [V.str s133, V.str s134]])) 16777216)) ::
                                                                                                                                      V.int IntKind.u8 (IntKind.wrap IntKind.u8 (Int.fdiv (4 + sumC (ls ++ [V.agg [V.str s133, V.str s134]])) 65536)) ::
                                                                                                                                        V.int IntKind.u8 (IntKind.wrap IntKind.u8 (Int.fdiv (4 + sumC (ls ++ [V.agg [V.str s133, V.str s134]])) 256)) ::
                                                                                                                                          V.int IntKind.u8 (IntKind.wrap IntKind.u8 (4 + sumC (ls ++ [V.agg [V.str s133, V.str s134]]))) :: V.int IntKind.u8 66 :: V.int IntKind.u8 69 :: V.int IntKind.u8 65 :: V.int IntKind.u8 77 :: mkRows (ls ++ [V.agg [V.str s133, V.str s134]]) →
                                                                                                                          ∀ (x142 : Bool), x142 = (0 == 6) → (x142 = true → r = V.bool true) ∧ (x142 = false → r = V.bool false)) ∧
                                                                                                                    ∀ (e146 : Int), e146 = mkE (ls ++ [V.agg [V.str s133, V.str s134]]) → e146 ≠ 0 → ∀ (x149 : Bool), x149 = (e146 == 6) → (x149 = true → r = V.bool true) ∧ (x149 = false → r = V.bool false))))))))))) ∧
                ∀ (e153 : Int),
                  e153 = mkE ls →
                    e153 ≠ 0 →
                      ∀ (x156 : Bool),
                        x156 = (e153 != 0) →
                          (x156 = true → ∀ (x159 : Bool), x159 = (e153 != 0) → (x159 = true → r = V.bool true) ∧ (x159 = false → r = V.bool false)) ∧
                            (x156 = false →
                              ∀ (x164 : Bool),
                                x164 = decide (0 < 12) →
                                  (x164 = true → ∀ (x167 : Bool), x167 = (e153 != 0) → (x167 = true → r = V.bool true) ∧ (x167 = false → r = V.bool false)) ∧
                                    (x164 = false →
                                      Int.ofNat 4 ≠ 0 ∧
                                        ∀ (x172 : Bool),
                                          x172 = (place x 4 == 0) →
                                            (x172 = true →
                                                Int.ofNat 0 ≠ 0 ∧
                                                  (True ∧ false = false ∧ True ∧ True ∧ True ∧ ((none : Option V) ≠ none → some (V.int IntKind.i64 (place y 0)) ≠ none ∧ Int.ofNat 0 = place y 0) ∧ 0 ≤ Int.ofNat 0 ∧ Int.ofNat 0 ≤ place y 0 ∧ place y 0 ≤ ↑(List.length ([] : List V)) ∧ some 1 = some 1 ∧ ∀ (v176 : V), List.Mem v176 [] → V.sz v176 = 1) ∧
                                                    (True →
                                                      ∀ (x179 : List V),
                                                        x179 = List.take (Int.toNat (place y 0 - Int.ofNat 0)) [] →
                                                          List.length x179 ≤ 9223372036854775807 →
                                                            ∀ (x182 : Int),
                                                              x182 = ↑(List.length x179) →
                                                                ∀ (x184 : Bool),
                                                                  x184 = decide (x182 < 12) →
                                                                    (x184 = true →
                                                                        BLs x179 ∧
                                                                          ∀ (l187 : List V) (e188 : Int),
                                                                            parseS x179 = (l187, e188) → ∀ (x190 : Bool), x190 = (e188 == 3) → (x190 = true → List.length l187 ≤ 9223372036854775807 → ∀ (x194 : Int), x194 = ↑(List.length l187) → ∀ (x196 : Bool), x196 = (x194 == 0) → (x196 = true → r = V.bool true) ∧ (x196 = false → r = V.bool false)) ∧ (x190 = false → r = V.bool false)) ∧
                                                                      (x184 = false →
                                                                        BLs x179 ∧
                                                                          ∀ (l202 : List V) (e203 : Int),
                                                                            parseS x179 = (l202, e203) → ∀ (x205 : Bool), x205 = (e203 == 5) → (x205 = true → List.length l202 ≤ 9223372036854775807 → ∀ (x209 : Int), x209 = ↑(List.length l202) → ∀ (x211 : Bool), x211 = (x209 == 0) → (x211 = true → r = V.bool true) ∧ (x211 = false → r = V.bool false)) ∧ (x205 = false → r = V.bool false)))) ∧
                                              (x172 = false →
                                                ∀ (x217 : Bool),
                                                  x217 = (place x 4 == 1) →
                                                    (x217 = true →
                                                        (((true || false) = true ∧ 4 = List.length [V.int IntKind.u8 0, V.int IntKind.u8 0, V.int IntKind.u8 0, V.int IntKind.u8 0]) ∧
                                                            (∀ (v220 : V), List.Mem v220 [V.int IntKind.u8 0, V.int IntKind.u8 0, V.int IntKind.u8 0, V.int IntKind.u8 0] → V.sz v220 = 1) ∧
                                                              some 1 = some 1 ∧ true = true ∧ ∃ b222, some 1 = some b222 ∧ List.length [V.int IntKind.u8 0, V.int IntKind.u8 0, V.int IntKind.u8 0, V.int IntKind.u8 0] * b222 ≤ 140737488355328 ∧ List.length [V.int IntKind.u8 0, V.int IntKind.u8 0, V.int IntKind.u8 0, V.int IntKind.u8 0] ≤ 9223372036854775807) ∧
                                                          (True →
                                                            List.length [V.int IntKind.u8 0, V.int IntKind.u8 0, V.int IntKind.u8 0, V.int IntKind.u8 0] = List.length [V.int IntKind.u8 0, V.int IntKind.u8 0, V.int IntKind.u8 0, V.int IntKind.u8 0] ∧
                                                              BLs [V.int IntKind.u8 0, V.int IntKind.u8 0, V.int IntKind.u8 0, V.int IntKind.u8 0] ∧
                                                                ∀ (l224 : List V) (e225 : Int),
                                                                  ([], 3) = (l224, e225) → ∀ (x227 : Bool), x227 = (e225 == 5) → (x227 = true → List.length l224 ≤ 9223372036854775807 → ∀ (x231 : Int), x231 = ↑(List.length l224) → ∀ (x233 : Bool), x233 = (x231 == 0) → (x233 = true → r = V.bool true) ∧ (x233 = false → r = V.bool false)) ∧ (x227 = false → r = V.bool false))) ∧
                                                      (x217 = false →
                                                        ∀ (x239 : Bool),
                                                          x239 = (place x 4 == 2) →
                                                            (x239 = true → Int.ofNat 4 ≠ 0 ∧ False) ∧
                                                              (x239 = false →
                                                                List.length ls ≤ 9223372036854775807 →
                                                                  ∀ (x244 : Int),
                                                                    x244 = ↑(List.length ls) →
                                                                      ∀ (x246 : Bool),
                                                                        x246 = (x244 == 0) →
                                                                          (x246 = true → r = V.bool true) ∧
                                                                            (x246 = false →
                                                                              (((true || false) = true ∧ True) ∧ (∀ (v250 : V), List.Mem v250 ls → V.sz v250 = 2) ∧ some 2 = some 2 ∧ true = true ∧ ∃ b252, some 32 = some b252 ∧ List.length ls * b252 ≤ 140737488355328 ∧ List.length ls ≤ 9223372036854775807) ∧
                                                                                (True →
                                                                                  List.length ls ≤ 9223372036854775807 →
                                                                                    ∀ (x255 : Int),
                                                                                      x255 = ↑(List.length ls) →
                                                                                        x255 ≠ 0 ∧
                                                                                          0 ≤ place y x255 ∧
                                                                                            place y x255 < ↑(List.length ls) ∧
                                                                                              ∃ s257 s258,
                                                                                                getV ls (place y x255) = V.agg [V.str s257, V.str s258] ∧
                                                                                                  (List.length ls = List.length ls ∧
                                                                                                      36 = 36 ∧
                                                                                                        ((true || false) = true ∧ True) ∧
                                                                                                          (∀ (v259 : V), List.Mem v259 [V.agg [V.str s257, V.str s258]] → V.sz v259 = 2) ∧
                                                                                                            some 2 = some 2 ∧ true = true ∧ ∃ b261, some 32 = some b261 ∧ (List.length ls + List.length [V.agg [V.str s257, V.str s258]]) * b261 ≤ 140737488355328 ∧ List.length ls + List.length [V.agg [V.str s257, V.str s258]] ≤ 9223372036854775807) ∧
                                                                                                    (True →
                                                                                                      List.length ls + List.length [V.agg [V.str s257, V.str s258]] = List.length (ls ++ [V.agg [V.str s257, V.str s258]]) ∧
                                                                                                        FitC (ls ++ [V.agg [V.str s257, V.str s258]]) ∧
                                                                                                          (mkE (ls ++ [V.agg [V.str s257, V.str s258]]) = 0 →
                                                                                                              ∀ (rows264 : List V),
                                                                                                                rows264 =
                                                                                                                    V.int IntKind.u8 70 ::
                                                                                                                      V.int IntKind.u8 79 ::
                                                                                                                        V.int IntKind.u8 82 ::
                                                                                                                          V.int IntKind.u8 49 ::
                                                                                                                            V.int IntKind.u8 (IntKind.wrap IntKind.u8 (Int.fdiv (4 + sumC (ls ++ [V.agg [V.str s257, V.str s258]])) 16777216)) ::
                                                                                                                              V.int IntKind.u8 (IntKind.wrap IntKind.u8 (Int.fdiv (4 + sumC (ls ++ [V.agg [V.str s257, V.str s258]])) 65536)) ::
                                                                                                                                V.int IntKind.u8 (IntKind.wrap IntKind.u8 (Int.fdiv (4 + sumC (ls ++ [V.agg [V.str s257, V.str s258]])) 256)) ::
                                                                                                                                  V.int IntKind.u8 (IntKind.wrap IntKind.u8 (4 + sumC (ls ++ [V.agg [V.str s257, V.str s258]]))) :: V.int IntKind.u8 66 :: V.int IntKind.u8 69 :: V.int IntKind.u8 65 :: V.int IntKind.u8 77 :: mkRows (ls ++ [V.agg [V.str s257, V.str s258]]) →
                                                                                                                  ∀ (x266 : Bool), x266 = (0 == 6) → (x266 = true → r = V.bool true) ∧ (x266 = false → r = V.bool false)) ∧
                                                                                                            ∀ (e270 : Int), e270 = mkE (ls ++ [V.agg [V.str s257, V.str s258]]) → e270 ≠ 0 → ∀ (x273 : Bool), x273 = (e270 == 6) → (x273 = true → r = V.bool true) ∧ (x273 = false → r = V.bool false))))))))))) := by kernel_rfl
theorem nl5_0 (xs c : List V) (v i : Int) (Nx Ex Rt : List V → List Blk → Prop) : wC Try.prog sp5 116 noHint (prsOf [(7, [[], [], [], [2], [1, 3, 2], [4, 1, 3, 2], [5, 4, 1, 3, 2], [], [], [7, 8], [9, 7, 8], [6, 5, 4, 1, 3, 2, 10, 9, 7, 8], [11, 6, 5, 4, 1, 3, 2, 10, 9, 7, 8], [0, 12, 11, 6, 5, 4, 1, 3, 2, 10, 9, 7, 8], [13, 0, 12, 11, 6, 5, 4, 1, 3, 2, 10, 9, 7, 8]])]) noLs 0 (lcode Try.f5 0).2 1004 (List.zip [0, 1, 5, 6] [.list false xs, .int .u32 v, .sl 1003 c.length, .int .i64 i]) (List.zip [1003] [⟨some 36, false, .agg c⟩]) (endK ends5_0 Nx Ex Rt) = (
  List.length xs ≤ 9223372036854775807 →
    ∀ (x1 : Int),
      x1 = ↑(List.length xs) →
        ∀ (x3 : Bool),
          x3 = decide (i < x1) →
            (x3 = true →
                ∀ (x6 : Bool),
                  x6 = decide (i < 5) →
                    (x6 = true →
                        0 ≤ i ∧
                          i < ↑(List.length xs) ∧
                            ∃ s9,
                              getV xs i = V.str s9 ∧
                                (List.length s9 ≤ 9223372036854775807 →
                                  ∀ (x11 : Int),
                                    x11 = ↑(List.length s9) →
                                      ∀ (x13 : Bool),
                                        x13 = decide (x11 > 500) →
                                          (x13 = true → Rt [V.bool true] []) ∧
                                            (x13 = false →
                                              ∀ (x17 : Int),
                                                x17 = IntKind.wrap IntKind.i64 (i + 1) →
                                                  (true = true ∧ (none : Option V) = none ∧ True ∧ True ∧ 0 ≤ i ∧ i ≤ x17 ∧ x17 ≤ ↑10) ∧
                                                    ∀ (x19 : List UInt8),
                                                      x19 = List.take (Int.toNat (x17 - i)) (List.drop (Int.toNat i) [48, 49, 50, 51, 52, 53, 54, 55, 56, 57]) →
                                                        2 + List.length x19 ≤ 9223372036854775807 ∧
                                                          ∀ (x21 : List UInt8),
                                                            x21 = 67 :: 104 :: x19 →
                                                              List.length x21 + 1 ≤ 9223372036854775807 ∧
                                                                ∀ (x23 : List UInt8),
                                                                  x23 = x21 ++ [120] →
                                                                    0 ≤ i ∧
                                                                      i < ↑(List.length xs) ∧
                                                                        ∃ s25,
                                                                          getV xs i = V.str s25 ∧
                                                                            (List.length c = List.length c ∧
                                                                                36 = 36 ∧
                                                                                  ((true || false) = true ∧ True) ∧
                                                                                    (∀ (v26 : V), List.Mem v26 [V.agg [V.str x23, V.str s25]] → V.sz v26 = 2) ∧ some 2 = some 2 ∧ true = true ∧ ∃ b28, some 32 = some b28 ∧ (List.length c + List.length [V.agg [V.str x23, V.str s25]]) * b28 ≤ 140737488355328 ∧ List.length c + List.length [V.agg [V.str x23, V.str s25]] ≤ 9223372036854775807) ∧
                                                                              ∀ (x29 : Int),
                                                                                x29 = IntKind.wrap IntKind.i64 (i + 1) → NoIds (c ++ [V.agg [V.str x23, V.str s25]]) ∧ Nx [V.list false xs, V.int IntKind.u32 v, V.sl 1003 (List.length c + List.length [V.agg [V.str x23, V.str s25]]), V.int IntKind.i64 x29] [{ arr := some 36, fz := false, t := V.agg (c ++ [V.agg [V.str x23, V.str s25]]) }]))) ∧
                      (x6 = false → NoIds c ∧ Ex [V.int IntKind.u32 v, V.sl 1003 (List.length c)] [{ arr := some 36, fz := false, t := V.agg c }])) ∧
              (x3 = false → NoIds c ∧ Ex [V.int IntKind.u32 v, V.sl 1003 (List.length c)] [{ arr := some 36, fz := false, t := V.agg c }])) := by kernel_rfl
theorem n5 (xs : List V) (v : Int) (r : V) : wC Try.prog sp5 116 (hintOf [(12016, 1), (12018, 1), (12020, 1), (12022, 1)]) (prsOf [(7, [[], [], [], [2], [1, 3, 2], [4, 1, 3, 2], [5, 4, 1, 3, 2], [], [], [7, 8], [9, 7, 8], [6, 5, 4, 1, 3, 2, 10, 9, 7, 8], [11, 6, 5, 4, 1, 3, 2, 10, 9, 7, 8], [0, 12, 11, 6, 5, 4, 1, 3, 2, 10, 9, 7, 8], [13, 0, 12, 11, 6, 5, 4, 1, 3, 2, 10, 9, 7, 8]])]) ls5 0 (bodyOf Try.f5) 1000 (initL [.list false xs, .int .u32 v] 0) [] (finK Try.prog none Try.f5.results.toList r) = (
  StL xs ∧
    List.length xs ≤ 9223372036854775807 ∧
      Int.ofNat 0 = 0 ∧
        ((∀ (j0 : Int), 0 ≤ j0 → j0 < ↑(List.length xs) → j0 < 5 → ↑(List.length (strV (getV xs j0))) ≤ (500 : Int)) →
            List.length (cS xs (min 5 (List.length xs))) = List.length (cS xs (min 5 (List.length xs))) ∧
              FitC (cS xs (min 5 (List.length xs))) ∧
                (mkE (cS xs (min 5 (List.length xs))) = 0 →
                    ∀ (rows6 : List V),
                      rows6 =
                          V.int IntKind.u8 70 ::
                            V.int IntKind.u8 79 ::
                              V.int IntKind.u8 82 ::
                                V.int IntKind.u8 49 ::
                                  V.int IntKind.u8 (IntKind.wrap IntKind.u8 (Int.fdiv (4 + sumC (cS xs (min 5 (List.length xs)))) 16777216)) ::
                                    V.int IntKind.u8 (IntKind.wrap IntKind.u8 (Int.fdiv (4 + sumC (cS xs (min 5 (List.length xs)))) 65536)) ::
                                      V.int IntKind.u8 (IntKind.wrap IntKind.u8 (Int.fdiv (4 + sumC (cS xs (min 5 (List.length xs)))) 256)) :: V.int IntKind.u8 (IntKind.wrap IntKind.u8 (4 + sumC (cS xs (min 5 (List.length xs))))) :: V.int IntKind.u8 66 :: V.int IntKind.u8 69 :: V.int IntKind.u8 65 :: V.int IntKind.u8 77 :: mkRows (cS xs (min 5 (List.length xs))) →
                        ∀ (x8 : Bool),
                          x8 = (0 != 0) →
                            (x8 = true → r = V.bool false) ∧
                              (x8 = false →
                                List.length rows6 = List.length rows6 ∧
                                  (List.length rows6 ≤ 9223372036854775807 →
                                    ∀ (x13 : Int),
                                      x13 = ↑(List.length rows6) →
                                        ∀ (x15 : Bool),
                                          x15 = decide (x13 < 12) →
                                            (x15 = true → r = V.bool false) ∧
                                              (x15 = false →
                                                true = true ∧
                                                  (True →
                                                    ∀ (x20 : Int),
                                                      x20 = IntKind.wrap IntKind.i64 v →
                                                        List.length rows6 = List.length rows6 ∧
                                                          (List.length rows6 ≤ 9223372036854775807 →
                                                            ∀ (x23 : Int),
                                                              x23 = ↑(List.length rows6) →
                                                                ∀ (x25 : Int),
                                                                  x25 = IntKind.wrap IntKind.i64 (x23 - 8) →
                                                                    ∀ (x27 : Bool),
                                                                      x27 = (x20 == x25) →
                                                                        Int.ofNat 0 ≤ 24 ∧
                                                                          (True →
                                                                            ∀ (x30 : Int),
                                                                              x30 = Int.fdiv v (2 ^ 24) →
                                                                                true = true ∧
                                                                                  (True →
                                                                                    ∀ (x33 : Int),
                                                                                      x33 = IntKind.wrap IntKind.u8 x30 →
                                                                                        Int.ofNat 0 ≤ 16 ∧
                                                                                          (True →
                                                                                            ∀ (x36 : Int),
                                                                                              x36 = Int.fdiv v (2 ^ 16) →
                                                                                                true = true ∧
                                                                                                  (True →
                                                                                                    ∀ (x39 : Int),
                                                                                                      x39 = IntKind.wrap IntKind.u8 x36 →
                                                                                                        Int.ofNat 0 ≤ 8 ∧
                                                                                                          (True →
                                                                                                            ∀ (x42 : Int),
                                                                                                              x42 = Int.fdiv v (2 ^ 8) →
                                                                                                                true = true ∧
                                                                                                                  (True →
                                                                                                                    ∀ (x45 : Int),
                                                                                                                      x45 = IntKind.wrap IntKind.u8 x42 →
                                                                                                                        true = true ∧
                                                                                                                          (True →
                                                                                                                            ∀ (x48 : Int),
                                                                                                                              x48 = IntKind.wrap IntKind.u8 v →
                                                                                                                                List.length rows6 = List.length rows6 ∧
                                                                                                                                  Int.ofNat 0 ≤ 4 ∧
                                                                                                                                    (4 : Int) < ↑(List.length rows6) ∧
                                                                                                                                      some 1 = some 1 ∧
                                                                                                                                        List.length rows6 = List.length rows6 ∧
                                                                                                                                          [4] ≠ [] ∧
                                                                                                                                            offQ (V.agg rows6) [4] = 4 ∧
                                                                                                                                              (∃ u50, subQ (V.agg rows6) [4] = some u50 ∧ V.sz (V.int IntKind.u8 x33) = V.sz u50 ∧ V.sz (V.int IntKind.u8 x33) = V.sz u50) ∧
                                                                                                                                                ∃ rows'51,
                                                                                                                                                  V.agg rows'51 = updQ (V.int IntKind.u8 x33) (V.agg rows6) [4] ∧
                                                                                                                                                    List.length rows6 = List.length rows'51 ∧
                                                                                                                                                      Int.ofNat 0 ≤ 5 ∧
                                                                                                                                                        (5 : Int) < ↑(List.length rows6) ∧
                                                                                                                                                          some 1 = some 1 ∧
                                                                                                                                                            List.length rows6 = List.length rows'51 ∧
                                                                                                                                                              [5] ≠ [] ∧
                                                                                                                                                                offQ (V.agg rows'51) [5] = 5 ∧
                                                                                                                                                                  (∃ u52, subQ (V.agg rows'51) [5] = some u52 ∧ V.sz (V.int IntKind.u8 x39) = V.sz u52 ∧ V.sz (V.int IntKind.u8 x39) = V.sz u52) ∧
                                                                                                                                                                    ∃ rows'53,
                                                                                                                                                                      V.agg rows'53 = updQ (V.int IntKind.u8 x39) (V.agg rows'51) [5] ∧
                                                                                                                                                                        List.length rows6 = List.length rows'53 ∧
                                                                                                                                                                          Int.ofNat 0 ≤ 6 ∧
                                                                                                                                                                            (6 : Int) < ↑(List.length rows6) ∧
                                                                                                                                                                              some 1 = some 1 ∧
                                                                                                                                                                                List.length rows6 = List.length rows'53 ∧
                                                                                                                                                                                  [6] ≠ [] ∧
                                                                                                                                                                                    offQ (V.agg rows'53) [6] = 6 ∧
                                                                                                                                                                                      (∃ u54, subQ (V.agg rows'53) [6] = some u54 ∧ V.sz (V.int IntKind.u8 x45) = V.sz u54 ∧ V.sz (V.int IntKind.u8 x45) = V.sz u54) ∧
                                                                                                                                                                                        ∃ rows'55,
                                                                                                                                                                                          V.agg rows'55 = updQ (V.int IntKind.u8 x45) (V.agg rows'53) [6] ∧
                                                                                                                                                                                            List.length rows6 = List.length rows'55 ∧
                                                                                                                                                                                              Int.ofNat 0 ≤ 7 ∧
                                                                                                                                                                                                (7 : Int) < ↑(List.length rows6) ∧
                                                                                                                                                                                                  some 1 = some 1 ∧
                                                                                                                                                                                                    List.length rows6 = List.length rows'55 ∧
                                                                                                                                                                                                      [7] ≠ [] ∧
                                                                                                                                                                                                        offQ (V.agg rows'55) [7] = 7 ∧
                                                                                                                                                                                                          (∃ u56, subQ (V.agg rows'55) [7] = some u56 ∧ V.sz (V.int IntKind.u8 x48) = V.sz u56 ∧ V.sz (V.int IntKind.u8 x48) = V.sz u56) ∧
                                                                                                                                                                                                            ∃ rows'57,
                                                                                                                                                                                                              V.agg rows'57 = updQ (V.int IntKind.u8 x48) (V.agg rows'55) [7] ∧
                                                                                                                                                                                                                List.length rows6 = List.length rows'57 ∧
                                                                                                                                                                                                                  BLs rows'57 ∧
                                                                                                                                                                                                                    ∀ (l58 : List V) (e59 : Int),
                                                                                                                                                                                                                      parseS rows'57 = (l58, e59) →
                                                                                                                                                                                                                        (x27 = true →
                                                                                                                                                                                                                            ∀ (x62 : Bool),
                                                                                                                                                                                                                              x62 = (e59 == 0) →
                                                                                                                                                                                                                                (x62 = true →
                                                                                                                                                                                                                                    List.length l58 ≤ 9223372036854775807 →
                                                                                                                                                                                                                                      ∀ (x66 : Int),
                                                                                                                                                                                                                                        x66 = ↑(List.length l58) →
                                                                                                                                                                                                                                          List.length (cS xs (min 5 (List.length xs))) = List.length (cS xs (min 5 (List.length xs))) ∧
                                                                                                                                                                                                                                            (List.length (cS xs (min 5 (List.length xs))) ≤ 9223372036854775807 →
                                                                                                                                                                                                                                              ∀ (x69 : Int),
                                                                                                                                                                                                                                                x69 = ↑(List.length (cS xs (min 5 (List.length xs)))) →
                                                                                                                                                                                                                                                  ∀ (x71 : Bool),
                                                                                                                                                                                                                                                    x71 = (x66 == x69) →
                                                                                                                                                                                                                                                      (x71 = true →
                                                                                                                                                                                                                                                          (true = true → r = V.bool true) ∧
                                                                                                                                                                                                                                                            (true = false →
                                                                                                                                                                                                                                                              ∀ (x76 : Bool),
                                                                                                                                                                                                                                                                x76 = !x27 →
                                                                                                                                                                                                                                                                  (x76 = true →
                                                                                                                                                                                                                                                                      ∀ (x79 : Bool),
                                                                                                                                                                                                                                                                        x79 = (e59 == 5) →
                                                                                                                                                                                                                                                                          (x79 = true →
                                                                                                                                                                                                                                                                              List.length l58 ≤ 9223372036854775807 →
                                                                                                                                                                                                                                                                                ∀ (x83 : Int),
                                                                                                                                                                                                                                                                                  x83 = ↑(List.length l58) →
                                                                                                                                                                                                                                                                                    ∀ (x85 : Bool), x85 = (x83 == 0) → (x85 = true → r = V.bool true) ∧ (x85 = false → r = V.bool false)) ∧
                                                                                                                                                                                                                                                                            (x79 = false → (false = true → r = V.bool true) ∧ (false = false → r = V.bool false))) ∧
                                                                                                                                                                                                                                                                    (x76 = false →
                                                                                                                                                                                                                                                                      (false = true →
                                                                                                                                                                                                                                                                          List.length l58 ≤ 9223372036854775807 →
                                                                                                                                                                                                                                                                            ∀ (x95 : Int),
                                                                                                                                                                                                                                                                              x95 = ↑(List.length l58) → ∀ (x97 : Bool), x97 = (x95 == 0) → (x97 = true → r = V.bool true) ∧ (x97 = false → r = V.bool false)) ∧
                                                                                                                                                                                                                                                                        (false = false → (false = true → r = V.bool true) ∧ (false = false → r = V.bool false))))) ∧
                                                                                                                                                                                                                                                        (x71 = false →
                                                                                                                                                                                                                                                          ∀ (x105 : Bool),
                                                                                                                                                                                                                                                            x105 = !x27 →
                                                                                                                                                                                                                                                              (x105 = true →
                                                                                                                                                                                                                                                                  ∀ (x108 : Bool),
                                                                                                                                                                                                                                                                    x108 = (e59 == 5) →
                                                                                                                                                                                                                                                                      (x108 = true →
                                                                                                                                                                                                                                                                          List.length l58 ≤ 9223372036854775807 →
                                                                                                                                                                                                                                                                            ∀ (x112 : Int),
                                                                                                                                                                                                                                                                              x112 = ↑(List.length l58) →
                                                                                                                                                                                                                                                                                ∀ (x114 : Bool), x114 = (x112 == 0) → (x114 = true → r = V.bool true) ∧ (x114 = false → r = V.bool false)) ∧
                                                                                                                                                                                                                                                                        (x108 = false → (false = true → r = V.bool true) ∧ (false = false → r = V.bool false))) ∧
                                                                                                                                                                                                                                                                (x105 = false →
                                                                                                                                                                                                                                                                  (false = true →
                                                                                                                                                                                                                                                                      List.length l58 ≤ 9223372036854775807 →
                                                                                                                                                                                                                                                                        ∀ (x124 : Int),
                                                                                                                                                                                                                                                                          x124 = ↑(List.length l58) → ∀ (x126 : Bool), x126 = (x124 == 0) → (x126 = true → r = V.bool true) ∧ (x126 = false → r = V.bool false)) ∧
                                                                                                                                                                                                                                                                    (false = false → (false = true → r = V.bool true) ∧ (false = false → r = V.bool false)))))) ∧
                                                                                                                                                                                                                                  (x62 = false →
                                                                                                                                                                                                                                    ∀ (x134 : Bool),
                                                                                                                                                                                                                                      x134 = !x27 →
                                                                                                                                                                                                                                        (x134 = true →
                                                                                                                                                                                                                                            ∀ (x137 : Bool),
                                                                                                                                                                                                                                              x137 = (e59 == 5) →
                                                                                                                                                                                                                                                (x137 = true →
                                                                                                                                                                                                                                                    List.length l58 ≤ 9223372036854775807 →
                                                                                                                                                                                                                                                      ∀ (x141 : Int), x141 = ↑(List.length l58) → ∀ (x143 : Bool), x143 = (x141 == 0) → (x143 = true → r = V.bool true) ∧ (x143 = false → r = V.bool false)) ∧
                                                                                                                                                                                                                                                  (x137 = false → (false = true → r = V.bool true) ∧ (false = false → r = V.bool false))) ∧
                                                                                                                                                                                                                                          (x134 = false →
                                                                                                                                                                                                                                            (false = true →
                                                                                                                                                                                                                                                List.length l58 ≤ 9223372036854775807 →
                                                                                                                                                                                                                                                  ∀ (x153 : Int), x153 = ↑(List.length l58) → ∀ (x155 : Bool), x155 = (x153 == 0) → (x155 = true → r = V.bool true) ∧ (x155 = false → r = V.bool false)) ∧
                                                                                                                                                                                                                                              (false = false → (false = true → r = V.bool true) ∧ (false = false → r = V.bool false))))) ∧
                                                                                                                                                                                                                          (x27 = false →
                                                                                                                                                                                                                            ∀ (x163 : Bool),
                                                                                                                                                                                                                              x163 = !x27 →
                                                                                                                                                                                                                                (x163 = true →
                                                                                                                                                                                                                                    ∀ (x166 : Bool),
                                                                                                                                                                                                                                      x166 = (e59 == 5) →
                                                                                                                                                                                                                                        (x166 = true →
                                                                                                                                                                                                                                            List.length l58 ≤ 9223372036854775807 →
                                                                                                                                                                                                                                              ∀ (x170 : Int), x170 = ↑(List.length l58) → ∀ (x172 : Bool), x172 = (x170 == 0) → (x172 = true → r = V.bool true) ∧ (x172 = false → r = V.bool false)) ∧
                                                                                                                                                                                                                                          (x166 = false → (false = true → r = V.bool true) ∧ (false = false → r = V.bool false))) ∧
                                                                                                                                                                                                                                  (x163 = false →
                                                                                                                                                                                                                                    (false = true →
                                                                                                                                                                                                                                        List.length l58 ≤ 9223372036854775807 →
                                                                                                                                                                                                                                          ∀ (x182 : Int), x182 = ↑(List.length l58) → ∀ (x184 : Bool), x184 = (x182 == 0) → (x184 = true → r = V.bool true) ∧ (x184 = false → r = V.bool false)) ∧
                                                                                                                                                                                                                                      (false = false → (false = true → r = V.bool true) ∧ (false = false → r = V.bool false))))))))))))))))) ∧
                  ∀ (e191 : Int),
                    e191 = mkE (cS xs (min 5 (List.length xs))) →
                      e191 ≠ 0 →
                        ∀ (x194 : Bool),
                          x194 = (e191 != 0) →
                            (x194 = true → r = V.bool false) ∧
                              (x194 = false →
                                ∀ (x198 : Bool),
                                  x198 = decide (0 < 12) →
                                    (x198 = true → r = V.bool false) ∧
                                      (x198 = false →
                                        true = true ∧
                                          (True →
                                            ∀ (x203 : Int),
                                              x203 = IntKind.wrap IntKind.i64 v →
                                                ∀ (x205 : Int),
                                                  x205 = IntKind.wrap IntKind.i64 (0 - 8) →
                                                    ∀ (x207 : Bool),
                                                      x207 = (x203 == x205) →
                                                        Int.ofNat 0 ≤ 24 ∧
                                                          (True →
                                                            ∀ (x210 : Int),
                                                              x210 = Int.fdiv v (2 ^ 24) →
                                                                true = true ∧
                                                                  (True →
                                                                    ∀ (x213 : Int),
                                                                      x213 = IntKind.wrap IntKind.u8 x210 →
                                                                        Int.ofNat 0 ≤ 16 ∧
                                                                          (True →
                                                                            ∀ (x216 : Int),
                                                                              x216 = Int.fdiv v (2 ^ 16) →
                                                                                true = true ∧ (True → ∀ (x219 : Int), x219 = IntKind.wrap IntKind.u8 x216 → Int.ofNat 0 ≤ 8 ∧ (True → ∀ (x222 : Int), x222 = Int.fdiv v (2 ^ 8) → true = true ∧ (True → ∀ (x225 : Int), x225 = IntKind.wrap IntKind.u8 x222 → true = true ∧ (True → ∀ (x228 : Int), x228 = IntKind.wrap IntKind.u8 v → False))))))))))) ∧
          ((¬∀ (j230 : Int), 0 ≤ j230 → j230 < ↑(List.length xs) → j230 < 5 → ↑(List.length (strV (getV xs j230))) ≤ (500 : Int)) → r = V.bool true)) := by kernel_rfl
theorem nl7_0 (xs c : List V) (at0 n i : Int) (Nx Ex Rt : List V → List Blk → Prop) : wC Try.prog sp7 109 noHint (prsOf [(8, [[], [], [], [2], [1, 3, 2], [4, 1, 3, 2], [5, 4, 1, 3, 2], [], [], [7, 8], [9, 7, 8], [6, 5, 4, 1, 3, 2, 10, 9, 7, 8], [11, 6, 5, 4, 1, 3, 2, 10, 9, 7, 8], [0, 12, 11, 6, 5, 4, 1, 3, 2, 10, 9, 7, 8], [13, 0, 12, 11, 6, 5, 4, 1, 3, 2, 10, 9, 7, 8]])]) noLs 0 (lcode Try.f7 0).2 1005 (List.zip [0, 1, 5, 6, 7] [.list false xs, .int .i64 at0, .sl 1004 c.length, .int .i64 n, .int .i64 i]) (List.zip [1004] [⟨some 36, false, .agg c⟩]) (endK ends7_0 Nx Ex Rt) = (
  List.length xs ≤ 9223372036854775807 →
    ∀ (x1 : Int),
      x1 = ↑(List.length xs) →
        ∀ (x3 : Bool),
          x3 = decide (i < x1) →
            (x3 = true →
                ∀ (x6 : Bool),
                  x6 = decide (i < 10) →
                    (x6 = true →
                        0 ≤ i ∧
                          i < ↑(List.length xs) ∧
                            ∃ s9,
                              getV xs i = V.str s9 ∧
                                (List.length s9 ≤ 9223372036854775807 →
                                  ∀ (x11 : Int),
                                    x11 = ↑(List.length s9) →
                                      ∀ (x13 : Bool),
                                        x13 = decide (x11 > 2000) →
                                          (x13 = true → Rt [V.bool true] []) ∧
                                            (x13 = false →
                                              ∀ (x17 : Int),
                                                x17 = IntKind.wrap IntKind.i64 (i + 1) →
                                                  (true = true ∧ (none : Option V) = none ∧ True ∧ True ∧ 0 ≤ i ∧ i ≤ x17 ∧ x17 ≤ ↑10) ∧
                                                    ∀ (x19 : List UInt8),
                                                      x19 = List.take (Int.toNat (x17 - i)) (List.drop (Int.toNat i) [48, 49, 50, 51, 52, 53, 54, 55, 56, 57]) →
                                                        2 + List.length x19 ≤ 9223372036854775807 ∧
                                                          ∀ (x21 : List UInt8),
                                                            x21 = 67 :: 104 :: x19 →
                                                              List.length x21 + 1 ≤ 9223372036854775807 ∧
                                                                ∀ (x23 : List UInt8),
                                                                  x23 = x21 ++ [120] →
                                                                    0 ≤ i ∧
                                                                      i < ↑(List.length xs) ∧
                                                                        ∃ s25,
                                                                          getV xs i = V.str s25 ∧
                                                                            (List.length c = List.length c ∧
                                                                                36 = 36 ∧
                                                                                  ((true || false) = true ∧ True) ∧
                                                                                    (∀ (v26 : V), List.Mem v26 [V.agg [V.str x23, V.str s25]] → V.sz v26 = 2) ∧ some 2 = some 2 ∧ true = true ∧ ∃ b28, some 32 = some b28 ∧ (List.length c + List.length [V.agg [V.str x23, V.str s25]]) * b28 ≤ 140737488355328 ∧ List.length c + List.length [V.agg [V.str x23, V.str s25]] ≤ 9223372036854775807) ∧
                                                                              ∀ (x29 : Int),
                                                                                x29 = IntKind.wrap IntKind.i64 (n + 8) →
                                                                                  0 ≤ i ∧
                                                                                    i < ↑(List.length xs) ∧
                                                                                      ∃ s31,
                                                                                        getV xs i = V.str s31 ∧
                                                                                          (List.length s31 ≤ 9223372036854775807 →
                                                                                            ∀ (x33 : Int),
                                                                                              x33 = ↑(List.length s31) →
                                                                                                ∀ (x35 : Int),
                                                                                                  x35 = IntKind.wrap IntKind.i64 (x33 + 3) →
                                                                                                    (IntKind.i64 = IntKind.i64 ∧ (Int.ofNat 4 = 0 → False)) ∧
                                                                                                      (True →
                                                                                                        ∀ (x39 : Int),
                                                                                                          x39 = IntKind.wrap IntKind.i64 (Int.tdiv x35 4) →
                                                                                                            ∀ (x41 : Int),
                                                                                                              x41 = IntKind.wrap IntKind.i64 (x39 * 4) →
                                                                                                                ∀ (x43 : Int),
                                                                                                                  x43 = IntKind.wrap IntKind.i64 (x29 + x41) →
                                                                                                                    ∀ (x45 : Int),
                                                                                                                      x45 = IntKind.wrap IntKind.i64 (i + 1) →
                                                                                                                        NoIds (c ++ [V.agg [V.str x23, V.str s25]]) ∧
                                                                                                                          Nx [V.list false xs, V.int IntKind.i64 at0, V.sl 1004 (List.length c + List.length [V.agg [V.str x23, V.str s25]]), V.int IntKind.i64 x43, V.int IntKind.i64 x45] [{ arr := some 36, fz := false, t := V.agg (c ++ [V.agg [V.str x23, V.str s25]]) }]))))) ∧
                      (x6 = false → NoIds c ∧ Ex [V.list false xs, V.int IntKind.i64 at0, V.sl 1004 (List.length c), V.int IntKind.i64 n] [{ arr := some 36, fz := false, t := V.agg c }])) ∧
              (x3 = false → NoIds c ∧ Ex [V.list false xs, V.int IntKind.i64 at0, V.sl 1004 (List.length c), V.int IntKind.i64 n] [{ arr := some 36, fz := false, t := V.agg c }])) := by kernel_rfl
theorem n7 (xs : List V) (at0 : Int) (r : V) : wC Try.prog sp7 109 noHint (prsOf [(8, [[], [], [], [2], [1, 3, 2], [4, 1, 3, 2], [5, 4, 1, 3, 2], [], [], [7, 8], [9, 7, 8], [6, 5, 4, 1, 3, 2, 10, 9, 7, 8], [11, 6, 5, 4, 1, 3, 2, 10, 9, 7, 8], [0, 12, 11, 6, 5, 4, 1, 3, 2, 10, 9, 7, 8], [13, 0, 12, 11, 6, 5, 4, 1, 3, 2, 10, 9, 7, 8]])]) ls7 0 (bodyOf Try.f7) 1000 (initL [.list false xs, .int .i64 at0] 0) [] (finK Try.prog none Try.f7.results.toList r) = (
  StL xs ∧
    List.length xs ≤ 9223372036854775807 ∧
      Int.ofNat 12 = 12 ∧
        Int.ofNat 0 = 0 ∧
          ((∀ (j0 : Int), 0 ≤ j0 → j0 < ↑(List.length xs) → j0 < 10 → ↑(List.length (strV (getV xs j0))) ≤ (2000 : Int)) →
              List.length (cS xs (min 10 (List.length xs))) = List.length (cS xs (min 10 (List.length xs))) ∧
                FitC (cS xs (min 10 (List.length xs))) ∧
                  (mkE (cS xs (min 10 (List.length xs))) = 0 →
                      ∀ (rows6 : List V),
                        rows6 =
                            V.int IntKind.u8 70 ::
                              V.int IntKind.u8 79 ::
                                V.int IntKind.u8 82 ::
                                  V.int IntKind.u8 49 ::
                                    V.int IntKind.u8 (IntKind.wrap IntKind.u8 (Int.fdiv (4 + sumC (cS xs (min 10 (List.length xs)))) 16777216)) ::
                                      V.int IntKind.u8 (IntKind.wrap IntKind.u8 (Int.fdiv (4 + sumC (cS xs (min 10 (List.length xs)))) 65536)) ::
                                        V.int IntKind.u8 (IntKind.wrap IntKind.u8 (Int.fdiv (4 + sumC (cS xs (min 10 (List.length xs)))) 256)) :: V.int IntKind.u8 (IntKind.wrap IntKind.u8 (4 + sumC (cS xs (min 10 (List.length xs))))) :: V.int IntKind.u8 66 :: V.int IntKind.u8 69 :: V.int IntKind.u8 65 :: V.int IntKind.u8 77 :: mkRows (cS xs (min 10 (List.length xs))) →
                          ∀ (x8 : Bool),
                            x8 = (0 != 0) →
                              (x8 = true → r = V.bool false) ∧
                                (x8 = false →
                                  List.length rows6 = List.length rows6 ∧
                                    (List.length rows6 ≤ 9223372036854775807 →
                                      ∀ (x13 : Int),
                                        x13 = ↑(List.length rows6) →
                                          ∀ (x15 : Bool),
                                            x15 = (x13 != 12 + sumC (cS xs (min 10 (List.length xs)))) →
                                              (x15 = true → r = V.bool false) ∧
                                                (x15 = false →
                                                  List.length (cS xs (min 10 (List.length xs))) = List.length (cS xs (min 10 (List.length xs))) ∧
                                                    (List.length (cS xs (min 10 (List.length xs))) ≤ 9223372036854775807 →
                                                      ∀ (x20 : Int),
                                                        x20 = ↑(List.length (cS xs (min 10 (List.length xs)))) →
                                                          ∀ (x22 : Bool),
                                                            x22 = (x20 == 0) →
                                                              (x22 = true → r = V.bool true) ∧
                                                                (x22 = false →
                                                                  List.length (cS xs (min 10 (List.length xs))) = List.length (cS xs (min 10 (List.length xs))) ∧
                                                                    (List.length (cS xs (min 10 (List.length xs))) ≤ 9223372036854775807 →
                                                                      ∀ (x27 : Int),
                                                                        x27 = ↑(List.length (cS xs (min 10 (List.length xs)))) →
                                                                          x27 ≠ 0 ∧
                                                                            List.length (cS xs (min 10 (List.length xs))) = List.length (cS xs (min 10 (List.length xs))) ∧
                                                                              0 ≤ place at0 x27 ∧
                                                                                place at0 x27 < ↑(List.length (cS xs (min 10 (List.length xs)))) ∧
                                                                                  some 2 = some 2 ∧
                                                                                    List.length (cS xs (min 10 (List.length xs))) = List.length (cS xs (min 10 (List.length xs))) ∧
                                                                                      ∃ s29,
                                                                                        subQ (V.agg (cS xs (min 10 (List.length xs)))) [Int.toNat (place at0 x27), 0] = some (V.str s29) ∧
                                                                                          List.length (cS xs (min 10 (List.length xs))) = List.length (cS xs (min 10 (List.length xs))) ∧
                                                                                            offQ (V.agg (cS xs (min 10 (List.length xs)))) [Int.toNat (place at0 x27), 0] = Int.toNat (place at0 x27) * 2 + 0 ∧
                                                                                              List.length (cS xs (min 10 (List.length xs))) = List.length (cS xs (min 10 (List.length xs))) ∧
                                                                                                CLs (cS xs (min 10 (List.length xs))) ∧
                                                                                                  List.length (cS xs (min 10 (List.length xs))) = List.length (cS xs (min 10 (List.length xs))) ∧
                                                                                                    CLs (cS xs (min 10 (List.length xs))) ∧
                                                                                                      ((findS s29 (cS xs (min 10 (List.length xs)))).2 = true →
                                                                                                          0 ≤ place at0 x27 ∧
                                                                                                            place at0 x27 < ↑(List.length xs) ∧
                                                                                                              ∃ s31,
                                                                                                                getV xs (place at0 x27) = V.str s31 ∧
                                                                                                                  ∀ (x32 : Bool),
                                                                                                                    x32 = ((findS s29 (cS xs (min 10 (List.length xs)))).1 == s31) →
                                                                                                                      (x32 = true → ∀ (x35 : Bool), x35 = !(findS (Array.toList (ByteArray.data { data := #[110, 111, 110, 101] })) (cS xs (min 10 (List.length xs)))).2 → (x35 = true → r = V.bool true) ∧ (x35 = false → r = V.bool false)) ∧ (x32 = false → r = V.bool false)) ∧
                                                                                                        ((findS s29 (cS xs (min 10 (List.length xs)))).2 = false → r = V.bool false)))))))) ∧
                    ∀ (e41 : Int),
                      e41 = mkE (cS xs (min 10 (List.length xs))) →
                        e41 ≠ 0 →
                          ∀ (x44 : Bool),
                            x44 = (e41 != 0) →
                              (x44 = true → r = V.bool false) ∧
                                (x44 = false →
                                  ∀ (x48 : Bool),
                                    x48 = (0 != 12 + sumC (cS xs (min 10 (List.length xs)))) →
                                      (x48 = true → r = V.bool false) ∧
                                        (x48 = false →
                                          List.length (cS xs (min 10 (List.length xs))) = List.length (cS xs (min 10 (List.length xs))) ∧
                                            (List.length (cS xs (min 10 (List.length xs))) ≤ 9223372036854775807 →
                                              ∀ (x53 : Int),
                                                x53 = ↑(List.length (cS xs (min 10 (List.length xs)))) →
                                                  ∀ (x55 : Bool),
                                                    x55 = (x53 == 0) →
                                                      (x55 = true → r = V.bool true) ∧
                                                        (x55 = false →
                                                          List.length (cS xs (min 10 (List.length xs))) = List.length (cS xs (min 10 (List.length xs))) ∧
                                                            (List.length (cS xs (min 10 (List.length xs))) ≤ 9223372036854775807 →
                                                              ∀ (x60 : Int),
                                                                x60 = ↑(List.length (cS xs (min 10 (List.length xs)))) →
                                                                  x60 ≠ 0 ∧
                                                                    List.length (cS xs (min 10 (List.length xs))) = List.length (cS xs (min 10 (List.length xs))) ∧
                                                                      0 ≤ place at0 x60 ∧
                                                                        place at0 x60 < ↑(List.length (cS xs (min 10 (List.length xs)))) ∧
                                                                          some 2 = some 2 ∧
                                                                            List.length (cS xs (min 10 (List.length xs))) = List.length (cS xs (min 10 (List.length xs))) ∧
                                                                              ∃ s62,
                                                                                subQ (V.agg (cS xs (min 10 (List.length xs)))) [Int.toNat (place at0 x60), 0] = some (V.str s62) ∧
                                                                                  List.length (cS xs (min 10 (List.length xs))) = List.length (cS xs (min 10 (List.length xs))) ∧
                                                                                    offQ (V.agg (cS xs (min 10 (List.length xs)))) [Int.toNat (place at0 x60), 0] = Int.toNat (place at0 x60) * 2 + 0 ∧
                                                                                      List.length (cS xs (min 10 (List.length xs))) = List.length (cS xs (min 10 (List.length xs))) ∧
                                                                                        CLs (cS xs (min 10 (List.length xs))) ∧
                                                                                          List.length (cS xs (min 10 (List.length xs))) = List.length (cS xs (min 10 (List.length xs))) ∧
                                                                                            CLs (cS xs (min 10 (List.length xs))) ∧
                                                                                              ((findS s62 (cS xs (min 10 (List.length xs)))).2 = true →
                                                                                                  0 ≤ place at0 x60 ∧
                                                                                                    place at0 x60 < ↑(List.length xs) ∧
                                                                                                      ∃ s64,
                                                                                                        getV xs (place at0 x60) = V.str s64 ∧
                                                                                                          ∀ (x65 : Bool),
                                                                                                            x65 = ((findS s62 (cS xs (min 10 (List.length xs)))).1 == s64) →
                                                                                                              (x65 = true → ∀ (x68 : Bool), x68 = !(findS (Array.toList (ByteArray.data { data := #[110, 111, 110, 101] })) (cS xs (min 10 (List.length xs)))).2 → (x68 = true → r = V.bool true) ∧ (x68 = false → r = V.bool false)) ∧ (x65 = false → r = V.bool false)) ∧
                                                                                                ((findS s62 (cS xs (min 10 (List.length xs)))).2 = false → r = V.bool false))))))) ∧
            ((¬∀ (j74 : Int), 0 ≤ j74 → j74 < ↑(List.length xs) → j74 < 10 → ↑(List.length (strV (getV xs j74))) ≤ (2000 : Int)) → r = V.bool true)) := by kernel_rfl
end GoL
