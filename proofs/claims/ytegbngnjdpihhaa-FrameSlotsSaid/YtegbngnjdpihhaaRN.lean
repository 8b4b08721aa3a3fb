/- A part of the proof: a logic for programs of this kind, proved sound over the model; contracts of functions; plain laws. -/
import Derived.Test.YtegbngnjdpihhaaRD
set_option linter.all false
open Go Go.Proofs
namespace GoL
set_option linter.unusedVariables false
set_option maxRecDepth 100000
theorem n30 (m a : Int) (r : V) : wC Try.prog sp30 20 noHint (prsOf []) noLs 0 (bodyOf Try.f30) 1000 (initL [.int .i64 m, .int .i64 a] 0) [] (finK Try.prog none Try.f30.results.toList r) = (
  ∀ (x0 : Int),
    x0 = bits BinOp.and IntKind.i64 m 511 →
      ∀ (x2 : Bool),
        x2 = (x0 != 16) →
          (x2 = true → ∀ (x5 : Bool), x5 = (x0 != 256) → (x5 = true → r = V.agg [V.int IntKind.i64 x0, V.int IntKind.i64 (-1)]) ∧ (x5 = false → ∀ (x9 : Bool), x9 = decide (a < -1) → (x9 = true → r = V.agg [V.int IntKind.i64 x0, V.int IntKind.i64 (-1)]) ∧ (x9 = false → r = V.agg [V.int IntKind.i64 x0, V.int IntKind.i64 a]))) ∧
            (x2 = false → ∀ (x14 : Bool), x14 = decide (a < -1) → (x14 = true → r = V.agg [V.int IntKind.i64 x0, V.int IntKind.i64 (-1)]) ∧ (x14 = false → r = V.agg [V.int IntKind.i64 x0, V.int IntKind.i64 a]))) := by kernel_rfl
theorem n32 (m a : Int) (r : V) : wC Try.prog sp32 8 noHint (prsOf []) noLs 0 (bodyOf Try.f32) 1000 (initL [.agg [.int .i64 m, .int .i64 a]] 0) [] (finK Try.prog none Try.f32.results.toList r) = (
  r = V.agg [V.int IntKind.i64 (made m a).1, V.int IntKind.i64 (made m a).2]) := by kernel_rfl
theorem n26 (m a n b : Int) (r : V) : wC Try.prog sp26 35 noHint (prsOf [(1, [[], [0], [], [2, 1, 0], [1, 0, 3, 2], [3, 2, 1, 0, 4]])]) noLs 0 (bodyOf Try.f26) 1000 (initL [.agg [.int .i64 m, .int .i64 a], .agg [.int .i64 n, .int .i64 b]] 0) [] (finK Try.prog none Try.f26.results.toList r) = (
  StructEq Try.prog 25 ∧
    (True →
      ∀ (x1 : Bool),
        x1 = ((made m a).1 == Int.ofNat 0 && (made m a).2 == Int.negSucc 0) →
          (x1 = true → r = V.agg [V.int IntKind.i64 (Int.ofNat 0), V.int IntKind.i64 (Int.negSucc 0)]) ∧
            (x1 = false →
              StructEq Try.prog 25 ∧
                (True →
                  ∀ (x6 : Bool),
                    x6 = ((made n b).1 == Int.ofNat 0 && (made n b).2 == Int.negSucc 0) →
                      (x6 = true → r = V.agg [V.int IntKind.i64 (Int.ofNat 0), V.int IntKind.i64 (Int.negSucc 0)]) ∧
                        (x6 = false →
                          ∀ (x10 : Bool),
                            x10 = ((made m a).2 == (made n b).2) →
                              (x10 = true → ∀ (x13 : Int), x13 = bits BinOp.or IntKind.i64 (made m a).1 (made n b).1 → r = V.agg [V.int IntKind.i64 (made x13 (Prod.snd (made m a))).1, V.int IntKind.i64 (made x13 (Prod.snd (made m a))).2]) ∧
                                (x10 = false → ∀ (x16 : Int), x16 = bits BinOp.or IntKind.i64 (made m a).1 (made n b).1 → r = V.agg [V.int IntKind.i64 (made x16 (-1)).1, V.int IntKind.i64 (made x16 (-1)).2])))))) := by kernel_rfl
theorem n29 (m a x : Int) (r : V) : wC Try.prog sp29 14 noHint (prsOf []) noLs 0 (bodyOf Try.f29) 1000 (initL [.agg [.int .i64 m, .int .i64 a], .int .i64 x] 0) [] (finK Try.prog none Try.f29.results.toList r) = (
  ∀ (x0 : Int), x0 = bits BinOp.and IntKind.i64 (made m a).1 x → r = V.agg [V.int IntKind.i64 (made x0 (Prod.snd (made m a))).1, V.int IntKind.i64 (made x0 (Prod.snd (made m a))).2]) := by kernel_rfl
theorem n28 (m a : Int) (r : V) : wC Try.prog sp28 14 noHint (prsOf []) noLs 0 (bodyOf Try.f28) 1000 (initL [.agg [.int .i64 m, .int .i64 a]] 0) [] (finK Try.prog none Try.f28.results.toList r) = (
  ∀ (x0 : Bool), x0 = ((made m a).1 != 0) → (x0 = true → ∀ (x3 : Int), x3 = bits BinOp.andNot IntKind.i64 (made m a).1 127 → ∀ (x5 : Bool), x5 = (x3 == 0) → r = V.bool x5) ∧ (x0 = false → r = V.bool false)) := by kernel_rfl
theorem n19 (m a : Int) (r : V) : wC Try.prog sp19 5 noHint (prsOf []) noLs 0 (bodyOf Try.f19) 1000 (initL [.agg [.int .i64 m, .int .i64 a]] 0) [] (finK Try.prog none Try.f19.results.toList r) = (
  r = V.agg [V.int IntKind.i64 (meet m a (-1)).1, V.int IntKind.i64 (meet m a (-1)).2]) := by kernel_rfl
theorem n24 (m a n b : Int) (r : V) : wC Try.prog sp24 10 noHint (prsOf [(1, [[], [0], [], [2, 1, 0], [1, 0, 3, 2], [4, 1, 0, 3, 2]])]) noLs 0 (bodyOf Try.f24) 1000 (initL [.agg [.int .i64 m, .int .i64 a], .agg [.int .i64 n, .int .i64 b]] 0) [] (finK Try.prog none Try.f24.results.toList r) = (
  StructEq Try.prog 25 ∧ ∀ (x0 : Bool), x0 = ((meet m a (-1)).1 == (meet n b (-1)).1 && (meet m a (-1)).2 == (meet n b (-1)).2) → r = V.bool x0) := by kernel_rfl
theorem n17  (r : V) : wC Try.prog sp17 2 noHint (prsOf []) noLs 0 (bodyOf Try.f17) 1000 (initL [] 0) [] (finK Try.prog none Try.f17.results.toList r) = (
  r = V.agg [V.int IntKind.i64 0, V.int IntKind.i64 (-1)]) := by kernel_rfl
theorem n23 (m a : Int) (r : V) : wC Try.prog sp23 6 noHint (prsOf [(1, [[], [], [0, 1], [2, 0, 1]])]) noLs 0 (bodyOf Try.f23) 1000 (initL [.agg [.int .i64 m, .int .i64 a]] 0) [] (finK Try.prog none Try.f23.results.toList r) = (
  r = V.bool (alikeK m a 0 (-1))) := by kernel_rfl
theorem n8 (n : Int) (r : V) : wC Try.prog sp8 5 noHint (prsOf []) noLs 0 (bodyOf Try.f8) 1000 (initL [.int .i64 n] 0) [] (finK Try.prog none Try.f8.results.toList r) = (
  r = V.agg [V.int IntKind.i64 4, V.int IntKind.i64 n, V.list false []]) := by kernel_rfl
theorem n5 (x n : Int) (r : V) : wC Try.prog sp5 15 noHint (prsOf []) noLs 0 (bodyOf Try.f5) 1000 (initL [.int .i64 x, .int .i64 n] 0) [] (finK Try.prog none Try.f5.results.toList r) = (
  (IntKind.i64 = IntKind.i64 ∧ (n = 0 → False)) ∧ (True → ∀ (x2 : Int), x2 = Int.tmod x n → ∀ (x4 : Bool), x4 = decide (x2 < 0) → (x4 = true → ∀ (x7 : Int), x7 = IntKind.wrap IntKind.i64 (x2 + n) → r = V.int IntKind.i64 x7) ∧ (x4 = false → r = V.int IntKind.i64 x2))) := by kernel_rfl
theorem nl6_0 (f : Nat → Int × Int) (n i : Int) (Nx Ex Rt : List V → List Blk → Prop) : wC Try.prog sp6 21 (hintOf [(5004, 26), (7004, 26)]) (prsOf []) noLs 0 (lcode Try.f6 0).2 1003 (List.zip [0, 2, 3, 5] [.int .i64 n, .ptr 1000 0 [], .ptr 1001 0 [], .int .i64 i]) (List.zip [1000, 1001] [⟨none, false, zS⟩, ⟨none, false, .agg [.agg (arrF 16 f), .bool false, .nils, .int .i64 0, .nils]⟩]) (endK ends6_0 Nx Ex Rt) = (
  ∀ (x0 : Bool),
    x0 = decide (i < 16) →
      (x0 = true →
          0 ≤ i ∧
            i < ↑16 ∧
              offQ
                      (V.agg
                        (arrF 16 f))
                      [Int.toNat i] +
                    0 =
                  0 + Int.toNat i * 2 ∧
                (∃ u3,
                    subQ
                          (V.agg
                            (arrF 16 f))
                          [Int.toNat i] =
                        some u3 ∧
                      V.sz (V.agg [V.int IntKind.i64 0, V.int IntKind.i64 (-1)]) = V.sz u3) ∧
                  ∃ f4 : Nat → Int × Int,
                    V.agg
                          (arrF 16 f4) =
                        updQ (V.agg [V.int IntKind.i64 0, V.int IntKind.i64 (-1)])
                          (V.agg
                            (arrF 16 f))
                          [Int.toNat i] ∧
                      ∀ (x5 : Bool),
                        x5 = decide (i < n) →
                          (x5 = true →
                              0 ≤ i ∧
                                i < ↑16 ∧
                                  offQ
                                          (V.agg
                                            (arrF 16 f4))
                                          [Int.toNat i] +
                                        0 =
                                      0 + Int.toNat i * 2 ∧
                                    (∃ u8,
                                        subQ
                                              (V.agg
                                                (arrF 16 f4))
                                              [Int.toNat i] =
                                            some u8 ∧
                                          V.sz (V.agg [V.int IntKind.i64 127, V.int IntKind.i64 (-1)]) = V.sz u8) ∧
                                      ∃ f9 : Nat → Int × Int,
                                        V.agg
                                              (arrF 16 f9) =
                                            updQ (V.agg [V.int IntKind.i64 127, V.int IntKind.i64 (-1)])
                                              (V.agg
                                                (arrF 16 f4))
                                              [Int.toNat i] ∧
                                          ∀ (x10 : Int),
                                            x10 = IntKind.wrap IntKind.i64 (i + 1) →
                                              Nx [V.int IntKind.i64 n, V.ptr 1000 0 [], V.ptr 1001 0 [], V.int IntKind.i64 x10]
                                                [{ arr := none, fz := false,
                                                    t :=
                                                      V.agg
                                                        [V.agg
                                                            (arrF 16 zF),
                                                          V.bool false, V.nils, V.int IntKind.i64 0, V.nils] },
                                                  { arr := none, fz := false,
                                                    t :=
                                                      V.agg
                                                        [V.agg
                                                            (arrF 16 f9),
                                                          V.bool false, V.nils, V.int IntKind.i64 0, V.nils] }]) ∧
                            (x5 = false →
                              ∀ (x13 : Int),
                                x13 = IntKind.wrap IntKind.i64 (i + 1) →
                                  Nx [V.int IntKind.i64 n, V.ptr 1000 0 [], V.ptr 1001 0 [], V.int IntKind.i64 x13]
                                    [{ arr := none, fz := false,
                                        t :=
                                          V.agg
                                            [V.agg
                                                (arrF 16 zF),
                                              V.bool false, V.nils, V.int IntKind.i64 0, V.nils] },
                                      { arr := none, fz := false,
                                        t :=
                                          V.agg
                                            [V.agg
                                                (arrF 16 f4),
                                              V.bool false, V.nils, V.int IntKind.i64 0, V.nils] }])) ∧
        (x0 = false →
          Ex [V.ptr 1000 0 [], V.ptr 1001 0 []]
            [{ arr := none, fz := false,
                t :=
                  V.agg
                    [V.agg
                        (arrF 16 zF),
                      V.bool false, V.nils, V.int IntKind.i64 0, V.nils] },
              { arr := none, fz := false,
                t :=
                  V.agg
                    [V.agg
                        (arrF 16 f),
                      V.bool false, V.nils, V.int IntKind.i64 0, V.nils] }])) := by kernel_rfl
theorem n6 (n : Int) (r : V) : wC Try.prog sp6 21 (hintOf [(5004, 26), (7004, 26)]) (prsOf []) ls6 0 (bodyOf Try.f6) 1000 (initL [.int .i64 n] 0) [] (finK Try.prog none Try.f6.results.toList r) = (
  Int.ofNat 0 = 0 ∧
    V.agg
          [V.agg
              (arrF 16 zF),
            V.bool false, V.nils, V.int IntKind.i64 0, V.nils] =
        V.agg
          [V.agg
              (arrF 16 zF),
            V.bool false, V.nils, V.int IntKind.i64 0, V.nils] ∧
      Int.ofNat 0 = 0 ∧
        (∃ f0 : Nat → Int × Int,
            (arrF 16 zF) =
              (arrF 16 f0)) ∧
          r =
            V.agg
              [V.agg
                  (arrF 16 (entF n)),
                V.bool false, V.list false [], V.int IntKind.i64 0, V.list false []]) := by kernel_rfl
theorem n18 (f : Nat → Int × Int) (fr : Bool) (ys ts : List V) (rm : Int) (r : V) : wC Try.prog sp18 26 noHint (prsOf []) noLs 0 (bodyOf Try.f18) 1000 (initL [.agg [.agg (arrF 16 f), .bool fr, .list false ys, .int .i64 rm, .list false ts]] 0) [] (finK Try.prog none Try.f18.results.toList r) = (
  List.length ys ≤ 9223372036854775807 →
    ∀ (x1 : Int),
      x1 = ↑(List.length ys) →
        (0 ≤ x1 ∧ x1 ≤ x1 ∧ x1 ≤ ↑9223372036854775807 ∧ ↑16 * x1 ≤ 281474976710656 ∧ true = true) ∧
          (True →
            (Int.toNat x1 = List.length (List.replicate (Int.toNat x1) (V.agg [V.int IntKind.i64 0, V.int IntKind.i64 0])) ∧ 25 = 25 ∧ some 2 = some 2 ∧ True ∧ (∀ (v4 : V), List.Mem v4 ys → V.sz v4 = 2) ∧ (∀ (j6 : Nat), V.list false ys ≠ V.sl 1005 j6) ∧ ∀ (s7 : List UInt8), V.list false ys ≠ V.str s7) ∧
              (True →
                ∀ (x9 : Int),
                  x9 = ↑(min (List.length ys) (List.length (List.replicate (Int.toNat x1) (V.agg [V.int IntKind.i64 0, V.int IntKind.i64 0])))) →
                    List.length ts ≤ 9223372036854775807 →
                      ∀ (x12 : Int),
                        x12 = ↑(List.length ts) →
                          (0 ≤ x12 ∧ x12 ≤ x12 ∧ x12 ≤ ↑9223372036854775807 ∧ ↑8 * x12 ≤ 281474976710656 ∧ true = true) ∧
                            (True →
                              (Int.toNat x12 = List.length (List.replicate (Int.toNat x12) (V.int IntKind.i64 0)) ∧ 3 = 3 ∧ some 1 = some 1 ∧ True ∧ (∀ (v15 : V), List.Mem v15 ts → V.sz v15 = 1) ∧ (∀ (j17 : Nat), V.list false ts ≠ V.sl 1014 j17) ∧ ∀ (s18 : List UInt8), V.list false ts ≠ V.str s18) ∧
                                (True →
                                  ∀ (x20 : Int),
                                    x20 = ↑(min (List.length ts) (List.length (List.replicate (Int.toNat x12) (V.int IntKind.i64 0)))) →
                                      Int.toNat x1 = List.length (List.take (List.length (List.replicate (Int.toNat x1) (V.agg [V.int IntKind.i64 0, V.int IntKind.i64 0]))) ys ++ List.drop (List.length ys) (List.replicate (Int.toNat x1) (V.agg [V.int IntKind.i64 0, V.int IntKind.i64 0]))) ∧
                                        Int.toNat x12 = List.length (List.take (List.length (List.replicate (Int.toNat x12) (V.int IntKind.i64 0))) ts ++ List.drop (List.length ts) (List.replicate (Int.toNat x12) (V.int IntKind.i64 0))) ∧
                                          r =
                                            V.agg
                                              [V.agg
                                                  (arrF 16 f),
                                                V.bool fr, V.list false (List.take (List.length (List.replicate (Int.toNat x1) (V.agg [V.int IntKind.i64 0, V.int IntKind.i64 0]))) ys ++ List.drop (List.length ys) (List.replicate (Int.toNat x1) (V.agg [V.int IntKind.i64 0, V.int IntKind.i64 0]))), V.int IntKind.i64 rm,
                                                V.list false (List.take (List.length (List.replicate (Int.toNat x12) (V.int IntKind.i64 0))) ts ++ List.drop (List.length ts) (List.replicate (Int.toNat x12) (V.int IntKind.i64 0)))]))))) := by kernel_rfl
theorem n20 (f : Nat → Int × Int) (fr : Bool) (ys ts : List V) (rm : Int) (n : Int) (r : V) : wC Try.prog sp20 18 noHint (prsOf []) noLs 0 (bodyOf Try.f20) 1000 (initL [.agg [.agg (arrF 16 f), .bool fr, .list false ys, .int .i64 rm, .list false ts], .int .i64 n] 0) [] (finK Try.prog none Try.f20.results.toList r) = (
  (fr = true → ∀ (x1 : Bool), x1 = decide (n ≥ 0) → (x1 = true → List.length ys ≤ 9223372036854775807 → ∀ (x5 : Int), x5 = ↑(List.length ys) → ∀ (x7 : Bool), x7 = decide (n < x5) → r = V.bool x7) ∧ (x1 = false → r = V.bool false)) ∧ (fr = false → r = V.bool false)) := by kernel_rfl
theorem nl13_0 (f : Nat → Int × Int) (fr : Bool) (ys ts : List V) (rm : Int) (i : Int) (Nx Ex Rt : List V → List Blk → Prop) : wC Try.prog sp13 20 (hintOf [(5004, 26)]) (prsOf []) noLs 0 (lcode Try.f13 0).2 1007 (List.zip [2, 4, 5] [.ptr 1000 0 [], .ptr 1001 0 [], .int .i64 i]) (List.zip [1000, 1001] [⟨none, false, .agg [.agg (arrF 16 f), .bool fr, .list false ys, .int .i64 rm, .list false ts]⟩, ⟨none, false, zS⟩]) (endK ends13_0 Nx Ex Rt) = (
  ∀ (x0 : Bool),
    x0 = decide (i < 16) →
      (x0 = true →
          0 ≤ i ∧
            i < ↑16 ∧
              offQ
                      (V.agg
                        (arrF 16 f))
                      [Int.toNat i] +
                    0 =
                  0 + Int.toNat i * 2 ∧
                (∃ u3,
                    subQ
                          (V.agg
                            (arrF 16 f))
                          [Int.toNat i] =
                        some u3 ∧
                      V.sz (V.agg [V.int IntKind.i64 0, V.int IntKind.i64 (-1)]) = V.sz u3) ∧
                  ∃ f4 : Nat → Int × Int,
                    V.agg
                          (arrF 16 f4) =
                        updQ (V.agg [V.int IntKind.i64 0, V.int IntKind.i64 (-1)])
                          (V.agg
                            (arrF 16 f))
                          [Int.toNat i] ∧
                      ∀ (x5 : Int),
                        x5 = IntKind.wrap IntKind.i64 (i + 1) →
                          Nx [V.ptr 1000 0 [], V.ptr 1001 0 [], V.int IntKind.i64 x5]
                            [{ arr := none, fz := false,
                                t :=
                                  V.agg
                                    [V.agg
                                        (arrF 16 f4),
                                      V.bool fr, V.list false ys, V.int IntKind.i64 rm, V.list false ts] },
                              { arr := none, fz := false,
                                t :=
                                  V.agg
                                    [V.agg
                                        (arrF 16 zF),
                                      V.bool false, V.nils, V.int IntKind.i64 0, V.nils] }]) ∧
        (x0 = false →
          Ex [V.ptr 1000 0 [], V.ptr 1001 0 []]
            [{ arr := none, fz := false,
                t :=
                  V.agg
                    [V.agg
                        (arrF 16 f),
                      V.bool fr, V.list false ys, V.int IntKind.i64 rm, V.list false ts] },
              { arr := none, fz := false,
                t :=
                  V.agg
                    [V.agg
                        (arrF 16 zF),
                      V.bool false, V.nils, V.int IntKind.i64 0, V.nils] }])) := by kernel_rfl
theorem n13 (f : Nat → Int × Int) (fr : Bool) (ys ts : List V) (rm : Int) (n : Int) (r : V) : wC Try.prog sp13 20 (hintOf [(5004, 26)]) (prsOf []) ls13 0 (bodyOf Try.f13) 1000 (initL [.agg [.agg (arrF 16 f), .bool fr, .list false ys, .int .i64 rm, .list false ts], .int .i64 n] 0) [] (finK Try.prog none Try.f13.results.toList r) = (
  SOk
      (arrF 16 f)
      ys ts ∧
    ∀ (z0 : Int),
      (z0 = if 16 < n then 16 else n) →
        ∀ (z2 : Int),
          (z2 = if 0 < z0 then z0 else 0) →
            0 ≤ z2 ∧
              V.agg
                    [V.agg
                        (arrF 16 zF),
                      V.bool false, V.nils, V.int IntKind.i64 0, V.nils] =
                  V.agg
                    [V.agg
                        (arrF 16 zF),
                      V.bool false, V.nils, V.int IntKind.i64 0, V.nils] ∧
                ∃ f4 : Nat → Int × Int,
                  (arrF 16 f) =
                      (arrF 16 f4) ∧
                    r =
                      V.agg
                        [V.agg
                            (arrF 16 (cutF f4 z2)),
                          V.bool fr, V.list false ys, V.int IntKind.i64 rm, V.list false ts]) := by kernel_rfl
theorem nl25_0 (xs ys : List V) (n i : Int) (Nx Ex Rt : List V → List Blk → Prop) : wC Try.prog sp25 26 noHint (prsOf [(6, [[], [], [0, 1], [2, 0, 1], [], [], [4, 5], [6, 4, 5], [3, 2, 0, 1, 7, 6, 4, 5]])]) noLs 0 (lcode Try.f25 0).2 1009 (List.zip [0, 1, 12, 13] [.list false xs, .list false ys, .int .i64 n, .int .i64 i]) (List.zip [] []) (endK ends25_0 Nx Ex Rt) = (
  ∀ (x0 : Bool),
    x0 = decide (i < n) →
      (x0 = true → 0 ≤ i ∧ i < ↑(List.length xs) ∧ ∃ n3, getV xs i = V.int IntKind.i64 n3 ∧ 0 ≤ i ∧ i < ↑(List.length ys) ∧ ∃ n4, getV ys i = V.int IntKind.i64 n4 ∧ ∀ (x5 : Bool), x5 = (n3 != n4) → (x5 = true → Rt [V.gd true (V.bool false)] []) ∧ (x5 = false → ∀ (x9 : Int), x9 = IntKind.wrap IntKind.i64 (i + 1) → Nx [V.list false xs, V.list false ys, V.int IntKind.i64 n, V.int IntKind.i64 x9] [])) ∧
        (x0 = false → Ex [] [])) := by kernel_rfl
theorem n25 (xs ys : List V) (r : V) : wC Try.prog sp25 26 noHint (prsOf [(6, [[], [], [0, 1], [2, 0, 1], [], [], [4, 5], [6, 4, 5], [3, 2, 0, 1, 7, 6, 4, 5]])]) ls25 0 (bodyOf Try.f25) 1000 (initL [.list false xs, .list false ys] 0) [] (finK Try.prog none Try.f25.results.toList r) = (
  List.length xs ≤ 9223372036854775807 → ∀ (x1 : Int), x1 = ↑(List.length xs) → List.length ys ≤ 9223372036854775807 → ∀ (x4 : Int), x4 = ↑(List.length ys) → ∀ (x6 : Bool), x6 = (x1 != x4) → (x6 = true → r = V.bool false) ∧ (x6 = false → List.length xs ≤ 9223372036854775807 → ∀ (x11 : Int), x11 = ↑(List.length xs) → Int.ofNat 0 = 0 ∧ x11 = 0 ∧ r = V.bool true)) := by kernel_rfl
theorem nl27_0 (xs ys : List V) (n i : Int) (Nx Ex Rt : List V → List Blk → Prop) : wC Try.prog sp27 32 noHint (prsOf []) noLs 0 (lcode Try.f27 0).2 1009 (List.zip [1, 2, 15, 16, 17] [.list false ys, .fn 24 [], .list false xs, .int .i64 n, .int .i64 i]) (List.zip [] []) (endK ends27_0 Nx Ex Rt) = (
  ∀ (x0 : Bool),
    x0 = decide (i < n) →
      (x0 = true →
          0 ≤ i ∧
            i < ↑(List.length xs) ∧
              ∃ n3 n4,
                getV xs i = V.agg [V.int IntKind.i64 n3, V.int IntKind.i64 n4] ∧
                  0 ≤ i ∧ i < ↑(List.length ys) ∧ ∃ n5 n6, getV ys i = V.agg [V.int IntKind.i64 n5, V.int IntKind.i64 n6] ∧ ∀ (x7 : Bool), x7 = !alikeK n3 n4 n5 n6 → (x7 = true → Rt [V.gd true (V.bool false)] []) ∧ (x7 = false → ∀ (x11 : Int), x11 = IntKind.wrap IntKind.i64 (i + 1) → Nx [V.list false ys, V.fn 24 [], V.list false xs, V.int IntKind.i64 n, V.int IntKind.i64 x11] [])) ∧
        (x0 = false → Ex [] [])) := by kernel_rfl
theorem n27 (xs ys : List V) (r : V) : wC Try.prog sp27 32 noHint (prsOf []) ls27 0 (bodyOf Try.f27) 1000 (initL [.list false xs, .list false ys, .fn 24 []] 0) [] (finK Try.prog none Try.f27.results.toList r) = (
  List.length xs ≤ 9223372036854775807 →
    ∀ (x1 : Int),
      x1 = ↑(List.length xs) →
        List.length ys ≤ 9223372036854775807 →
          ∀ (x4 : Int),
            x4 = ↑(List.length ys) → ∀ (x6 : Bool), x6 = (x1 != x4) → (x6 = true → r = V.bool false) ∧ (x6 = false → List.length xs ≤ 9223372036854775807 → ∀ (x11 : Int), x11 = ↑(List.length xs) → Int.ofNat 0 = 0 ∧ x11 = ↑(List.length xs) ∧ List.length xs = List.length ys ∧ List.length xs ≤ 100000 ∧ KLs xs ∧ KLs ys ∧ (eqKs xs ys = true → r = V.bool true) ∧ (eqKs xs ys = false → r = V.bool false))) := by kernel_rfl
theorem nl15_0 (xs : List V) (n i : Int) (Nx Ex Rt : List V → List Blk → Prop) : wC Try.prog sp15 30 noHint (prsOf []) noLs 0 (lcode Try.f15 0).2 1013 (List.zip [15, 16, 17] [.list false xs, .int .i64 n, .int .i64 i]) (List.zip [] []) (endK ends15_0 Nx Ex Rt) = (
  ∀ (x0 : Bool),
    x0 = decide (i < n) →
      (x0 = true →
          0 ≤ i ∧
            i < ↑(List.length xs) ∧
              ∃ n3 n4,
                getV xs i = V.agg [V.int IntKind.i64 n3, V.int IntKind.i64 n4] ∧
                  (plain n3 n4 = true → ∀ (x6 : Int), x6 = IntKind.wrap IntKind.i64 (i + 1) → Nx [V.list false xs, V.int IntKind.i64 n, V.int IntKind.i64 x6] []) ∧
                    (plain n3 n4 = false → ∀ (x9 : Bool), x9 = ((meet n3 n4 (-1)).1 == 128) → (x9 = true → ∀ (x12 : Int), x12 = IntKind.wrap IntKind.i64 (i + 1) → Nx [V.list false xs, V.int IntKind.i64 n, V.int IntKind.i64 x12] []) ∧ (x9 = false → Rt [V.gd true (V.bool false)] []))) ∧
        (x0 = false → Ex [] [])) := by kernel_rfl
theorem n15 (f : Nat → Int × Int) (fr : Bool) (ys ts : List V) (rm : Int) (n : Int) (r : V) : wC Try.prog sp15 30 noHint (prsOf []) ls15 0 (bodyOf Try.f15) 1000 (initL [.agg [.agg (arrF 16 f), .bool fr, .list false ys, .int .i64 rm, .list false ts], .int .i64 n] 0) [] (finK Try.prog none Try.f15.results.toList r) = (
  ∀ (x0 : Bool),
    x0 = decide (n < 0) →
      (x0 = true → r = V.bool false) ∧
        (x0 = false →
          ∀ (x4 : Bool),
            x4 = decide (n > 16) →
              (x4 = true → r = V.bool false) ∧
                (x4 = false →
                  0 ≤ n ∧
                    n ≤ ↑16 ∧
                      ∀ (ys8 : List V),
                        ys8 =
                            List.take (Int.toNat n)
                              (arrF 16 f) →
                          List.length ys8 ≤ 9223372036854775807 → ∀ (x11 : Int), x11 = ↑(List.length ys8) → Int.ofNat 0 = 0 ∧ x11 = ↑(List.length ys8) ∧ List.length ys8 ≤ 100000 ∧ KLs ys8 ∧ (goods ys8 = true → r = V.bool true) ∧ (goods ys8 = false → r = V.bool false)))) := by kernel_rfl
theorem nl12_0 (f g h : Nat → Int × Int) (i : Int) (Nx Ex Rt : List V → List Blk → Prop) : wC Try.prog sp12 87 (hintOf [(7004, 25), (7008, 25), (7012, 26)]) (prsOf [(7, [[], [], [], [2, 1], [3, 2, 1], [], [], [6, 5], [7, 6, 5], [4, 3, 2, 1, 8, 7, 6, 5], [], [10, 0, 1, 2, 3, 4, 5, 6, 7, 8, 9], [11, 10, 0, 1, 2, 3, 4, 5, 6, 7, 8, 9]]), (14, [[], [0], [], [], [3], [], [4, 3, 5], [6, 4, 3, 5], [], [8], [], [9, 8, 10], [11, 9, 8, 10], [7, 6, 4, 3, 5, 12, 11, 9, 8, 10], [1, 0, 2, 3, 4, 5, 6, 7, 8, 9, 10, 11, 12, 13], [14, 1, 0, 2, 3, 4, 5, 6, 7, 8, 9, 10, 11, 12, 13]])]) noLs 0 (lcode Try.f12 0).2 1035 (List.zip [2, 3, 4, 6, 38] [.ptr 1000 0 [], .ptr 1001 0 [], .ptr 1002 0 [], .ptr 1032 0 [], .int .i64 i]) (List.zip [1000, 1001, 1002, 1032] [⟨none, false, .agg [.agg (arrF 16 f), .bool false, .list false [], .int .i64 0, .list false []]⟩, ⟨none, false, .agg [.agg (arrF 16 g), .bool false, .list false [], .int .i64 0, .list false []]⟩, ⟨none, false, zS⟩, ⟨none, false, .agg [.agg (arrF 16 h), .bool false, .list false [], .int .i64 0, .list false []]⟩]) (endK ends12_0 Nx Ex Rt) = (
  ∀ (x0 : Bool),
    x0 = decide (i < 16) →
      (x0 = true →
          0 ≤ i ∧
            i < ↑16 ∧
              ∃ n3 n4,
                subQ
                      (V.agg
                        [V.agg
                            (arrF 16 f),
                          V.bool false, V.list false [], V.int IntKind.i64 0, V.list false []])
                      [0, Int.toNat i] =
                    some (V.agg [V.int IntKind.i64 n3, V.int IntKind.i64 n4]) ∧
                  offQ
                        (V.agg
                          [V.agg
                              (arrF 16 f),
                            V.bool false, V.list false [], V.int IntKind.i64 0, V.list false []])
                        [0, Int.toNat i] =
                      0 + Int.toNat i * 2 ∧
                    0 ≤ i ∧
                      i < ↑16 ∧
                        ∃ n5 n6,
                          subQ
                                (V.agg
                                  [V.agg
                                      (arrF 16 g),
                                    V.bool false, V.list false [], V.int IntKind.i64 0, V.list false []])
                                [0, Int.toNat i] =
                              some (V.agg [V.int IntKind.i64 n5, V.int IntKind.i64 n6]) ∧
                            offQ
                                  (V.agg
                                    [V.agg
                                        (arrF 16 g),
                                      V.bool false, V.list false [], V.int IntKind.i64 0, V.list false []])
                                  [0, Int.toNat i] =
                                0 + Int.toNat i * 2 ∧
                              0 ≤ i ∧
                                i < ↑16 ∧
                                  offQ
                                          (V.agg
                                            (arrF 16 h))
                                          [Int.toNat i] +
                                        0 =
                                      0 + Int.toNat i * 2 ∧
                                    (∃ u7,
                                        subQ
                                              (V.agg
                                                (arrF 16 h))
                                              [Int.toNat i] =
                                            some u7 ∧
                                          V.sz (V.agg [V.int IntKind.i64 (join n3 n4 n5 n6).1, V.int IntKind.i64 (join n3 n4 n5 n6).2]) = V.sz u7) ∧
                                      ∃ f8 : Nat → Int × Int,
                                        V.agg
                                              (arrF 16 f8) =
                                            updQ (V.agg [V.int IntKind.i64 (join n3 n4 n5 n6).1, V.int IntKind.i64 (join n3 n4 n5 n6).2])
                                              (V.agg
                                                (arrF 16 h))
                                              [Int.toNat i] ∧
                                          ∀ (x9 : Int),
                                            x9 = IntKind.wrap IntKind.i64 (i + 1) →
                                              Nx [V.ptr 1000 0 [], V.ptr 1001 0 [], V.ptr 1002 0 [], V.ptr 1032 0 [], V.int IntKind.i64 x9]
                                                [{ arr := none, fz := false,
                                                    t :=
                                                      V.agg
                                                        [V.agg
                                                            (arrF 16 f),
                                                          V.bool false, V.list false [], V.int IntKind.i64 0, V.list false []] },
                                                  { arr := none, fz := false,
                                                    t :=
                                                      V.agg
                                                        [V.agg
                                                            (arrF 16 g),
                                                          V.bool false, V.list false [], V.int IntKind.i64 0, V.list false []] },
                                                  { arr := none, fz := false,
                                                    t :=
                                                      V.agg
                                                        [V.agg
                                                            (arrF 16 zF),
                                                          V.bool false, V.nils, V.int IntKind.i64 0, V.nils] },
                                                  { arr := none, fz := false,
                                                    t :=
                                                      V.agg
                                                        [V.agg
                                                            (arrF 16 f8),
                                                          V.bool false, V.list false [], V.int IntKind.i64 0, V.list false []] }]) ∧
        (x0 = false →
          Ex [V.ptr 1000 0 [], V.ptr 1001 0 [], V.ptr 1002 0 [], V.ptr 1032 0 []]
            [{ arr := none, fz := false,
                t :=
                  V.agg
                    [V.agg
                        (arrF 16 f),
                      V.bool false, V.list false [], V.int IntKind.i64 0, V.list false []] },
              { arr := none, fz := false,
                t :=
                  V.agg
                    [V.agg
                        (arrF 16 g),
                      V.bool false, V.list false [], V.int IntKind.i64 0, V.list false []] },
              { arr := none, fz := false,
                t :=
                  V.agg
                    [V.agg
                        (arrF 16 zF),
                      V.bool false, V.nils, V.int IntKind.i64 0, V.nils] },
              { arr := none, fz := false,
                t :=
                  V.agg
                    [V.agg
                        (arrF 16 h),
                      V.bool false, V.list false [], V.int IntKind.i64 0, V.list false []] }])) := by kernel_rfl
theorem nl12_1 (f g h : Nat → Int × Int) (Nx Ex Rt : List V → List Blk → Prop) : wC Try.prog sp12 87 (hintOf [(7004, 25), (7008, 25), (7012, 26)]) (prsOf [(7, [[], [], [], [2, 1], [3, 2, 1], [], [], [6, 5], [7, 6, 5], [4, 3, 2, 1, 8, 7, 6, 5], [], [10, 0, 1, 2, 3, 4, 5, 6, 7, 8, 9], [11, 10, 0, 1, 2, 3, 4, 5, 6, 7, 8, 9]]), (14, [[], [0], [], [], [3], [], [4, 3, 5], [6, 4, 3, 5], [], [8], [], [9, 8, 10], [11, 9, 8, 10], [7, 6, 4, 3, 5, 12, 11, 9, 8, 10], [1, 0, 2, 3, 4, 5, 6, 7, 8, 9, 10, 11, 12, 13], [14, 1, 0, 2, 3, 4, 5, 6, 7, 8, 9, 10, 11, 12, 13]])]) noLs 2 (lcode Try.f12 1).2 1042 (List.zip [2, 3, 4, 6, 60, 61] [.ptr 1000 0 [], .ptr 1001 0 [], .ptr 1002 0 [], .ptr 1032 0 [], .int .i64 0, .int .i64 0]) (List.zip [1000, 1001, 1002, 1032] [⟨none, false, .agg [.agg (arrF 16 f), .bool false, .list false [], .int .i64 0, .list false []]⟩, ⟨none, false, .agg [.agg (arrF 16 g), .bool false, .list false [], .int .i64 0, .list false []]⟩, ⟨none, false, zS⟩, ⟨none, false, .agg [.agg (arrF 16 h), .bool false, .nils, .int .i64 0, .list false []]⟩]) (endK ends12_1 Nx Ex Rt) = (
  ∀ (x0 : Bool),
    x0 = decide (0 < 0) →
      (x0 = true → Int.ofNat 0 ≤ 0 ∧ (0 : Int) < ↑0 ∧ ∃ n3 n4, V.junk = V.agg [V.int IntKind.i64 n3, V.int IntKind.i64 n4] ∧ Int.ofNat 0 ≤ 0 ∧ (0 : Int) < ↑0 ∧ ∃ n5 n6, V.junk = V.agg [V.int IntKind.i64 n5, V.int IntKind.i64 n6] ∧ False) ∧
        (x0 = false →
          Ex [V.ptr 1000 0 [], V.ptr 1001 0 [], V.ptr 1002 0 [], V.ptr 1032 0 []]
            [{ arr := none, fz := false,
                t :=
                  V.agg
                    [V.agg
                        (arrF 16 f),
                      V.bool false, V.list false [], V.int IntKind.i64 0, V.list false []] },
              { arr := none, fz := false,
                t :=
                  V.agg
                    [V.agg
                        (arrF 16 g),
                      V.bool false, V.list false [], V.int IntKind.i64 0, V.list false []] },
              { arr := none, fz := false,
                t :=
                  V.agg
                    [V.agg
                        (arrF 16 zF),
                      V.bool false, V.nils, V.int IntKind.i64 0, V.nils] },
              { arr := none, fz := false,
                t :=
                  V.agg
                    [V.agg
                        (arrF 16 h),
                      V.bool false, V.nils, V.int IntKind.i64 0, V.list false []] }])) := by kernel_rfl
theorem n12 (f g : Nat → Int × Int) (r : V) : wC Try.prog sp12 87 (hintOf [(7004, 25), (7008, 25), (7012, 26)]) (prsOf [(7, [[], [], [], [2, 1], [3, 2, 1], [], [], [6, 5], [7, 6, 5], [4, 3, 2, 1, 8, 7, 6, 5], [], [10, 0, 1, 2, 3, 4, 5, 6, 7, 8, 9], [11, 10, 0, 1, 2, 3, 4, 5, 6, 7, 8, 9]]), (14, [[], [0], [], [], [3], [], [4, 3, 5], [6, 4, 3, 5], [], [8], [], [9, 8, 10], [11, 9, 8, 10], [7, 6, 4, 3, 5, 12, 11, 9, 8, 10], [1, 0, 2, 3, 4, 5, 6, 7, 8, 9, 10, 11, 12, 13], [14, 1, 0, 2, 3, 4, 5, 6, 7, 8, 9, 10, 11, 12, 13]])]) ls12 0 (bodyOf Try.f12) 1000 (initL [.agg [.agg (arrF 16 f), .bool false, .list false [], .int .i64 0, .list false []], .agg [.agg (arrF 16 g), .bool false, .list false [], .int .i64 0, .list false []]] 0) [] (finK Try.prog none Try.f12.results.toList r) = (
  ∀ (x0 : Bool),
    x0 = (false != false) →
      (x0 = true →
          r =
            V.tup
              [V.agg
                  [V.agg
                      (arrF 16 zF),
                    V.bool false, V.list false [], V.int IntKind.i64 0, V.list false []],
                V.bool false]) ∧
        (x0 = false →
          (false = true →
              0 ≤ 9223372036854775807 →
                ∀ (x6 : Int),
                  x6 = ↑0 →
                    0 ≤ 9223372036854775807 →
                      ∀ (x9 : Int),
                        x9 = ↑0 →
                          ∀ (x11 : Bool),
                            x11 = (x6 != x9) →
                              (x11 = true →
                                  r =
                                    V.tup
                                      [V.agg
                                          [V.agg
                                              (arrF 16 zF),
                                            V.bool false, V.list false [], V.int IntKind.i64 0, V.list false []],
                                        V.bool false]) ∧
                                (x11 = false →
                                  ([] : List V) = [] ∧
                                    ([] : List V) = [] ∧
                                      ∀ (x15 : Bool),
                                        x15 = !true →
                                          (x15 = true →
                                              r =
                                                V.tup
                                                  [V.agg
                                                      [V.agg
                                                          (arrF 16 zF),
                                                        V.bool false, V.list false [], V.int IntKind.i64 0, V.list false []],
                                                    V.bool false]) ∧
                                            (x15 = false →
                                              SOk
                                                  (arrF 16 f)
                                                  [] [] ∧
                                                ∃ f19 g20 h21,
                                                  (arrF 16 f) =
                                                      (arrF 16 f19) ∧
                                                    (arrF 16 g) =
                                                        (arrF 16 g20) ∧
                                                      (arrF 16 f) =
                                                          (arrF 16 h21) ∧
                                                        Int.ofNat 0 = 0 ∧
                                                          [V.bool false, V.list false [], V.int IntKind.i64 0, V.list false [], V.bool false, V.list false [], V.int IntKind.i64 0, V.list false [],
                                                                V.agg
                                                                  [V.agg
                                                                      (arrF 16 zF),
                                                                    V.bool false, V.nils, V.int IntKind.i64 0, V.nils],
                                                                V.bool false, V.list false [], V.int IntKind.i64 0, V.list false []] =
                                                              [V.bool false, V.list false [], V.int IntKind.i64 0, V.list false [], V.bool false, V.list false [], V.int IntKind.i64 0, V.list false [],
                                                                V.agg
                                                                  [V.agg
                                                                      (arrF 16 zF),
                                                                    V.bool false, V.nils, V.int IntKind.i64 0, V.nils],
                                                                V.bool false, V.list false [], V.int IntKind.i64 0, V.list false []] ∧
                                                            ∀ (x22 : Bool),
                                                              x22 = !false →
                                                                (x22 = true →
                                                                    ∃ f25 g26 h27,
                                                                      (arrF 16 f19) =
                                                                          (arrF 16 f25) ∧
                                                                        (arrF 16 g20) =
                                                                            (arrF 16 g26) ∧
                                                                          (arrF 16 (joinF f19 g20)) =
                                                                              (arrF 16 h27) ∧
                                                                            Int.ofNat 0 = 0 ∧
                                                                              Int.ofNat 0 = 0 ∧
                                                                                [V.bool false, V.list false [], V.int IntKind.i64 0, V.list false [], V.bool false, V.list false [], V.int IntKind.i64 0, V.list false [],
                                                                                      V.agg
                                                                                        [V.agg
                                                                                            (arrF 16 zF),
                                                                                          V.bool false, V.nils, V.int IntKind.i64 0, V.nils],
                                                                                      V.bool false, V.nils, V.int IntKind.i64 0, V.list false []] =
                                                                                    [V.bool false, V.list false [], V.int IntKind.i64 0, V.list false [], V.bool false, V.list false [], V.int IntKind.i64 0, V.list false [],
                                                                                      V.agg
                                                                                        [V.agg
                                                                                            (arrF 16 zF),
                                                                                          V.bool false, V.nils, V.int IntKind.i64 0, V.nils],
                                                                                      V.bool false, V.nils, V.int IntKind.i64 0, V.list false []] ∧
                                                                                  ∀ (z28 : Int),
                                                                                    (z28 = if 0 < 0 then 0 else 0) →
                                                                                      r =
                                                                                        V.tup
                                                                                          [V.agg
                                                                                              [V.agg
                                                                                                  (arrF 16 h27),
                                                                                                V.bool false, V.list false [], V.int IntKind.i64 z28, V.list false []],
                                                                                            V.bool true]) ∧
                                                                  (x22 = false →
                                                                    0 ≤ 9223372036854775807 →
                                                                      ∀ (x32 : Int),
                                                                        x32 = ↑0 →
                                                                          ∃ f34 g35 h36,
                                                                            (arrF 16 f19) =
                                                                                (arrF 16 f34) ∧
                                                                              (arrF 16 g20) =
                                                                                  (arrF 16 g35) ∧
                                                                                (arrF 16 (joinF f19 g20)) =
                                                                                    (arrF 16 h36) ∧
                                                                                  Int.ofNat 0 = 0 ∧
                                                                                    x32 = 0 ∧
                                                                                      [V.bool false, V.list false [], V.int IntKind.i64 0, V.list false [], V.bool false, V.list false [], V.int IntKind.i64 0, V.list false [],
                                                                                            V.agg
                                                                                              [V.agg
                                                                                                  (arrF 16 zF),
                                                                                                V.bool false, V.nils, V.int IntKind.i64 0, V.nils],
                                                                                            V.bool false, V.list false [], V.int IntKind.i64 0, V.list false []] =
                                                                                          [V.bool false, V.list false [], V.int IntKind.i64 0, V.list false [], V.bool false, V.list false [], V.int IntKind.i64 0, V.list false [],
                                                                                            V.agg
                                                                                              [V.agg
                                                                                                  (arrF 16 zF),
                                                                                                V.bool false, V.nils, V.int IntKind.i64 0, V.nils],
                                                                                            V.bool false, V.nils, V.int IntKind.i64 0, V.list false []] ∧
                                                                                        ∀ (z37 : Int),
                                                                                          (z37 = if 0 < 0 then 0 else 0) →
                                                                                            r =
                                                                                              V.tup
                                                                                                [V.agg
                                                                                                    [V.agg
                                                                                                        (arrF 16 h36),
                                                                                                      V.bool false, V.list false [], V.int IntKind.i64 z37, V.list false []],
                                                                                                  V.bool true])))) ∧
            (false = false →
              (false = true →
                  r =
                    V.tup
                      [V.agg
                          [V.agg
                              (arrF 16 zF),
                            V.bool false, V.list false [], V.int IntKind.i64 0, V.list false []],
                        V.bool false]) ∧
                (false = false →
                  ([] : List V) = [] ∧
                    ([] : List V) = [] ∧
                      ∀ (x42 : Bool),
                        x42 = !true →
                          (x42 = true →
                              r =
                                V.tup
                                  [V.agg
                                      [V.agg
                                          (arrF 16 zF),
                                        V.bool false, V.list false [], V.int IntKind.i64 0, V.list false []],
                                    V.bool false]) ∧
                            (x42 = false →
                              SOk
                                  (arrF 16 f)
                                  [] [] ∧
                                ∃ f46 g47 h48,
                                  (arrF 16 f) =
                                      (arrF 16 f46) ∧
                                    (arrF 16 g) =
                                        (arrF 16 g47) ∧
                                      (arrF 16 f) =
                                          (arrF 16 h48) ∧
                                        Int.ofNat 0 = 0 ∧
                                          [V.bool false, V.list false [], V.int IntKind.i64 0, V.list false [], V.bool false, V.list false [], V.int IntKind.i64 0, V.list false [],
                                                V.agg
                                                  [V.agg
                                                      (arrF 16 zF),
                                                    V.bool false, V.nils, V.int IntKind.i64 0, V.nils],
                                                V.bool false, V.list false [], V.int IntKind.i64 0, V.list false []] =
                                              [V.bool false, V.list false [], V.int IntKind.i64 0, V.list false [], V.bool false, V.list false [], V.int IntKind.i64 0, V.list false [],
                                                V.agg
                                                  [V.agg
                                                      (arrF 16 zF),
                                                    V.bool false, V.nils, V.int IntKind.i64 0, V.nils],
                                                V.bool false, V.list false [], V.int IntKind.i64 0, V.list false []] ∧
                                            ∀ (x49 : Bool),
                                              x49 = !false →
                                                (x49 = true →
                                                    ∃ f52 g53 h54,
                                                      (arrF 16 f46) =
                                                          (arrF 16 f52) ∧
                                                        (arrF 16 g47) =
                                                            (arrF 16 g53) ∧
                                                          (arrF 16 (joinF f46 g47)) =
                                                              (arrF 16 h54) ∧
                                                            Int.ofNat 0 = 0 ∧
                                                              Int.ofNat 0 = 0 ∧
                                                                [V.bool false, V.list false [], V.int IntKind.i64 0, V.list false [], V.bool false, V.list false [], V.int IntKind.i64 0, V.list false [],
                                                                      V.agg
                                                                        [V.agg
                                                                            (arrF 16 zF),
                                                                          V.bool false, V.nils, V.int IntKind.i64 0, V.nils],
                                                                      V.bool false, V.nils, V.int IntKind.i64 0, V.list false []] =
                                                                    [V.bool false, V.list false [], V.int IntKind.i64 0, V.list false [], V.bool false, V.list false [], V.int IntKind.i64 0, V.list false [],
                                                                      V.agg
                                                                        [V.agg
                                                                            (arrF 16 zF),
                                                                          V.bool false, V.nils, V.int IntKind.i64 0, V.nils],
                                                                      V.bool false, V.nils, V.int IntKind.i64 0, V.list false []] ∧
                                                                  ∀ (z55 : Int),
                                                                    (z55 = if 0 < 0 then 0 else 0) →
                                                                      r =
                                                                        V.tup
                                                                          [V.agg
                                                                              [V.agg
                                                                                  (arrF 16 h54),
                                                                                V.bool false, V.list false [], V.int IntKind.i64 z55, V.list false []],
                                                                            V.bool true]) ∧
                                                  (x49 = false →
                                                    0 ≤ 9223372036854775807 →
                                                      ∀ (x59 : Int),
                                                        x59 = ↑0 →
                                                          ∃ f61 g62 h63,
                                                            (arrF 16 f46) =
                                                                (arrF 16 f61) ∧
                                                              (arrF 16 g47) =
                                                                  (arrF 16 g62) ∧
                                                                (arrF 16 (joinF f46 g47)) =
                                                                    (arrF 16 h63) ∧
                                                                  Int.ofNat 0 = 0 ∧
                                                                    x59 = 0 ∧
                                                                      [V.bool false, V.list false [], V.int IntKind.i64 0, V.list false [], V.bool false, V.list false [], V.int IntKind.i64 0, V.list false [],
                                                                            V.agg
                                                                              [V.agg
                                                                                  (arrF 16 zF),
                                                                                V.bool false, V.nils, V.int IntKind.i64 0, V.nils],
                                                                            V.bool false, V.list false [], V.int IntKind.i64 0, V.list false []] =
                                                                          [V.bool false, V.list false [], V.int IntKind.i64 0, V.list false [], V.bool false, V.list false [], V.int IntKind.i64 0, V.list false [],
                                                                            V.agg
                                                                              [V.agg
                                                                                  (arrF 16 zF),
                                                                                V.bool false, V.nils, V.int IntKind.i64 0, V.nils],
                                                                            V.bool false, V.nils, V.int IntKind.i64 0, V.list false []] ∧
                                                                        ∀ (z64 : Int),
                                                                          (z64 = if 0 < 0 then 0 else 0) →
                                                                            r =
                                                                              V.tup
                                                                                [V.agg
                                                                                    [V.agg
                                                                                        (arrF 16 h63),
                                                                                      V.bool false, V.list false [], V.int IntKind.i64 z64, V.list false []],
                                                                                  V.bool true])))))) := by kernel_rfl
theorem n14 (f g : Nat → Int × Int) (r : V) : wC Try.prog sp14 42 noHint (prsOf [(3, [[], [0], [], [2], [1, 0, 3, 2], [4, 1, 0, 3, 2]])]) noLs 0 (bodyOf Try.f14) 1000 (initL [.agg [.agg (arrF 16 f), .bool false, .list false [], .int .i64 0, .list false []], .agg [.agg (arrF 16 g), .bool false, .list false [], .int .i64 0, .list false []]] 0) [] (finK Try.prog none Try.f14.results.toList r) = (
  ∀ (x0 : Bool),
    x0 = (false != false) →
      (x0 = true → r = V.bool false) ∧
        (x0 = false →
          ∀ (x4 : Bool),
            x4 = (0 != 0) →
              (x4 = true → r = V.bool false) ∧
                (x4 = false →
                  ([] : List V) = [] ∧
                    ([] : List V) = [] ∧
                      ∀ (x8 : Bool),
                        x8 = !true →
                          (x8 = true → r = V.bool false) ∧
                            (x8 = false →
                              (false = true →
                                  KLs [] ∧
                                    KLs [] ∧
                                      0 = 0 ∧
                                        0 ≤ 100000 ∧
                                          ∀ (x13 : Bool),
                                            x13 = !eqKs [] [] →
                                              (x13 = true → r = V.bool false) ∧
                                                (x13 = false →
                                                  ∀ (ys17 : List V),
                                                    ys17 =
                                                        (arrF 16 f) →
                                                      ∀ (ys19 : List V),
                                                        ys19 =
                                                            (arrF 16 g) →
                                                          KLs ys17 ∧ KLs ys19 ∧ List.length ys17 = List.length ys19 ∧ List.length ys17 ≤ 100000 ∧ r = V.bool (eqKs ys17 ys19))) ∧
                                (false = false →
                                  (false = true → r = V.bool false) ∧
                                    (false = false →
                                      ∀ (ys24 : List V),
                                        ys24 =
                                            (arrF 16 f) →
                                          ∀ (ys26 : List V),
                                            ys26 =
                                                (arrF 16 g) →
                                              KLs ys24 ∧ KLs ys26 ∧ List.length ys24 = List.length ys26 ∧ List.length ys24 ≤ 100000 ∧ r = V.bool (eqKs ys24 ys26))))))) := by kernel_rfl
theorem n16 (f g : Nat → Int × Int) (r : V) : wC Try.prog sp16 19 noHint (prsOf []) noLs 0 (bodyOf Try.f16) 1000 (initL [.agg [.agg (arrF 16 f), .bool false, .list false [], .int .i64 0, .list false []], .agg [.agg (arrF 16 g), .bool false, .list false [], .int .i64 0, .list false []]] 0) [] (finK Try.prog none Try.f16.results.toList r) = (
  ∃ f0 g1,
    (arrF 16 f) =
        (arrF 16 f0) ∧
      (arrF 16 g) =
          (arrF 16 g1) ∧
        [V.bool false, V.list false [], V.int IntKind.i64 0, V.list false [], V.bool false, V.list false [], V.int IntKind.i64 0, V.list false []] = [V.bool false, V.list false [], V.int IntKind.i64 0, V.list false [], V.bool false, V.list false [], V.int IntKind.i64 0, V.list false []] ∧
          ∀ (h2 : Nat → Int × Int),
            h2 = joinF f0 g1 →
              (true = true →
                  ∃ f5 g6,
                    (arrF 16 h2) =
                        (arrF 16 f5) ∧
                      (arrF 16 g) =
                          (arrF 16 g6) ∧
                        [V.bool false, V.list false [], V.int IntKind.i64 0, V.list false [], V.bool false, V.list false [], V.int IntKind.i64 0, V.list false []] = [V.bool false, V.list false [], V.int IntKind.i64 0, V.list false [], V.bool false, V.list false [], V.int IntKind.i64 0, V.list false []] ∧ r = V.bool (sameB f5 g6)) ∧
                (true = false → r = V.bool false)) := by kernel_rfl
theorem nl31_0 (ys : List V) (n i : Int) (Nx Ex Rt : List V → List Blk → Prop) : wC Try.prog sp31 19 noHint (prsOf []) noLs 0 (lcode Try.f31 0).2 1004 (List.zip [0, 1, 7, 8] [.list false ys, .fn 23 [], .int .i64 n, .int .i64 i]) (List.zip [] []) (endK ends31_0 Nx Ex Rt) = (
  ∀ (x0 : Bool),
    x0 = decide (i < n) → (x0 = true → 0 ≤ i ∧ i < ↑(List.length ys) ∧ ∃ n3 n4, getV ys i = V.agg [V.int IntKind.i64 n3, V.int IntKind.i64 n4] ∧ (alikeK n3 n4 0 (-1) = true → Rt [V.int IntKind.i64 i] []) ∧ (alikeK n3 n4 0 (-1) = false → ∀ (x7 : Int), x7 = IntKind.wrap IntKind.i64 (i + 1) → Nx [V.list false ys, V.fn 23 [], V.int IntKind.i64 n, V.int IntKind.i64 x7] [])) ∧ (x0 = false → Ex [] [])) := by kernel_rfl
theorem n31 (ys : List V) (r : V) : wC Try.prog sp31 19 noHint (prsOf []) ls31 0 (bodyOf Try.f31) 1000 (initL [.list false ys, .fn 23 []] 0) [] (finK Try.prog none Try.f31.results.toList r) = (
  List.length ys ≤ 9223372036854775807 → ∀ (x1 : Int), x1 = ↑(List.length ys) → Int.ofNat 0 = 0 ∧ x1 = ↑(List.length ys) ∧ List.length ys ≤ 100000 ∧ KLs ys ∧ (idxF ys 0 = -1 → r = V.int IntKind.i64 (-1)) ∧ (0 ≤ idxF ys 0 → r = V.int IntKind.i64 (idxF ys 0))) := by kernel_rfl
theorem n22 (ys : List V) (r : V) : wC Try.prog sp22 9 noHint (prsOf []) noLs 0 (bodyOf Try.f22) 1000 (initL [.list false ys, .fn 23 []] 0) [] (finK Try.prog none Try.f22.results.toList r) = (
  KLs ys ∧ List.length ys ≤ 100000 ∧ ∀ (x0 : Bool), x0 = decide (idxF ys 0 ≥ 0) → r = V.bool x0) := by kernel_rfl
theorem n10 (f : Nat → Int × Int) (fr : Bool) (ys ts : List V) (rm : Int) (r : V) : wC Try.prog sp10 12 noHint (prsOf []) noLs 0 (bodyOf Try.f10) 1000 (initL [.agg [.agg (arrF 16 f), .bool fr, .list false ys, .int .i64 rm, .list false ts]] 0) [] (finK Try.prog none Try.f10.results.toList r) = (
  ∀ (x0 : Bool), x0 = !fr → (x0 = true → r = V.bool true) ∧ (x0 = false → KLs ys ∧ List.length ys ≤ 100000 ∧ ∀ (x4 : Bool), x4 = !decide (idxF ys 0 ≥ 0) → r = V.bool x4)) := by kernel_rfl
theorem n11 (r : V) : wC Try.prog sp11 29 noHint (prsOf []) noLs 0 (bodyOf Try.f11) 1000 (initL [] 0) [] (finK Try.prog none Try.f11.results.toList r) = (
  ∀ (f0 : Nat → Int × Int),
    f0 = entF 1 →
      Int.ofNat 0 ≤ 0 ∧
        (0 : Int) < ↑16 ∧
          ∀ (x2 : Bool),
            x2 = ((f0 0).1 == 127) →
              (x2 = true →
                  Int.ofNat 0 ≤ 1 ∧
                    (1 : Int) < ↑16 ∧
                      ∀ (x5 : Bool),
                        x5 = ((f0 1).1 == 0) →
                          (x5 = true →
                              ∀ (x8 : Bool),
                                x8 = !false →
                                  (x8 = true →
                                      ∃ f11 : Nat → Int × Int,
                                        (arrF 16 f0) =
                                            (arrF 16 f11) ∧
                                          (liveB f11 1 = true →
                                              ∃ f13 : Nat → Int × Int,
                                                (arrF 16 f0) =
                                                    (arrF 16 f13) ∧
                                                  ∀ (x14 : Bool), x14 = !liveB f13 2 → r = V.bool x14) ∧
                                            (liveB f11 1 = false → r = V.bool false)) ∧
                                    (x8 = false → r = V.bool false)) ∧
                            (x5 = false → r = V.bool false)) ∧
                (x2 = false → r = V.bool false)) := by kernel_rfl
theorem n4 (a b c : Int) (r : V) : wC Try.prog sp4 90 noHint (prsOf [(5, [[], [0], [1, 0], [1, 0], [1, 0], [3, 1, 0, 4], [5, 3, 1, 0, 4], [2, 1, 0, 6, 5, 3, 4], [1, 0, 7, 2, 6, 5, 3, 4], [8, 1, 0, 7, 2, 6, 5, 3, 4], [9, 8, 1, 0, 7, 2, 6, 5, 3, 4], [9, 8, 1, 0, 7, 2, 6, 5, 3, 4], [9, 8, 1, 0, 7, 2, 6, 5, 3, 4], [11, 9, 8, 1, 0, 7, 2, 6, 5, 3, 4, 12], [13, 11, 9, 8, 1, 0, 7, 2, 6, 5, 3, 4, 12], [10, 9, 8, 1, 0, 7, 2, 6, 5, 3, 4, 14, 13, 11, 12], [9, 8, 1, 0, 7, 2, 6, 5, 3, 4, 15, 10, 14, 13, 11, 12], [16, 9, 8, 1, 0, 7, 2, 6, 5, 3, 4, 15, 10, 14, 13, 11, 12], [17, 16, 9, 8, 1, 0, 7, 2, 6, 5, 3, 4, 15, 10, 14, 13, 11, 12], [17, 16, 9, 8, 1, 0, 7, 2, 6, 5, 3, 4, 15, 10, 14, 13, 11, 12], [18, 17, 16, 9, 8, 1, 0, 7, 2, 6, 5, 3, 4, 15, 10, 14, 13, 11, 12, 19], [17, 16, 9, 8, 1, 0, 7, 2, 6, 5, 3, 4, 15, 10, 14, 13, 11, 12, 20, 18, 19], [21, 17, 16, 9, 8, 1, 0, 7, 2, 6, 5, 3, 4, 15, 10, 14, 13, 11, 12, 20, 18, 19], [22, 21, 17, 16, 9, 8, 1, 0, 7, 2, 6, 5, 3, 4, 15, 10, 14, 13, 11, 12, 20, 18, 19], [23, 22, 21, 17, 16, 9, 8, 1, 0, 7, 2, 6, 5, 3, 4, 15, 10, 14, 13, 11, 12, 20, 18, 19], [24, 23, 22, 21, 17, 16, 9, 8, 1, 0, 7, 2, 6, 5, 3, 4, 15, 10, 14, 13, 11, 12, 20, 18, 19], [25, 24, 23, 22, 21, 17, 16, 9, 8, 1, 0, 7, 2, 6, 5, 3, 4, 15, 10, 14, 13, 11, 12, 20, 18, 19], [25, 24, 23, 22, 21, 17, 16, 9, 8, 1, 0, 7, 2, 6, 5, 3, 4, 15, 10, 14, 13, 11, 12, 20, 18, 19], [27, 25, 24, 23, 22, 21, 17, 16, 9, 8, 1, 0, 7, 2, 6, 5, 3, 4, 15, 10, 14, 13, 11, 12, 20, 18, 19], [26, 25, 24, 23, 22, 21, 17, 16, 9, 8, 1, 0, 7, 2, 6, 5, 3, 4, 15, 10, 14, 13, 11, 12, 20, 18, 19, 28, 27], [29, 26, 25, 24, 23, 22, 21, 17, 16, 9, 8, 1, 0, 7, 2, 6, 5, 3, 4, 15, 10, 14, 13, 11, 12, 20, 18, 19, 28, 27], [25, 24, 23, 22, 21, 17, 16, 9, 8, 1, 0, 7, 2, 6, 5, 3, 4, 15, 10, 14, 13, 11, 12, 20, 18, 19, 30, 29, 26, 28, 27], [22, 21, 17, 16, 9, 8, 1, 0, 7, 2, 6, 5, 3, 4, 15, 10, 14, 13, 11, 12, 20, 18, 19, 31, 25, 24, 23, 30, 29, 26, 28, 27], [32, 22, 21, 17, 16, 9, 8, 1, 0, 7, 2, 6, 5, 3, 4, 15, 10, 14, 13, 11, 12, 20, 18, 19, 31, 25, 24, 23, 30, 29, 26, 28, 27], [33, 32, 22, 21, 17, 16, 9, 8, 1, 0, 7, 2, 6, 5, 3, 4, 15, 10, 14, 13, 11, 12, 20, 18, 19, 31, 25, 24, 23, 30, 29, 26, 28, 27], [33, 32, 22, 21, 17, 16, 9, 8, 1, 0, 7, 2, 6, 5, 3, 4, 15, 10, 14, 13, 11, 12, 20, 18, 19, 31, 25, 24, 23, 30, 29, 26, 28, 27], [33, 32, 22, 21, 17, 16, 9, 8, 1, 0, 7, 2, 6, 5, 3, 4, 15, 10, 14, 13, 11, 12, 20, 18, 19, 31, 25, 24, 23, 30, 29, 26, 28, 27], [35, 33, 32, 22, 21, 17, 16, 9, 8, 1, 0, 7, 2, 6, 5, 3, 4, 15, 10, 14, 13, 11, 12, 20, 18, 19, 31, 25, 24, 23, 30, 29, 26, 28, 27, 36], [34, 33, 32, 22, 21, 17, 16, 9, 8, 1, 0, 7, 2, 6, 5, 3, 4, 15, 10, 14, 13, 11, 12, 20, 18, 19, 31, 25, 24, 23, 30, 29, 26, 28, 27, 37, 35, 36], [33, 32, 22, 21, 17, 16, 9, 8, 1, 0, 7, 2, 6, 5, 3, 4, 15, 10, 14, 13, 11, 12, 20, 18, 19, 31, 25, 24, 23, 30, 29, 26, 28, 27, 38, 34, 37, 35, 36], [39, 33, 32, 22, 21, 17, 16, 9, 8, 1, 0, 7, 2, 6, 5, 3, 4, 15, 10, 14, 13, 11, 12, 20, 18, 19, 31, 25, 24, 23, 30, 29, 26, 28, 27, 38, 34, 37, 35, 36], [40, 39, 33, 32, 22, 21, 17, 16, 9, 8, 1, 0, 7, 2, 6, 5, 3, 4, 15, 10, 14, 13, 11, 12, 20, 18, 19, 31, 25, 24, 23, 30, 29, 26, 28, 27, 38, 34, 37, 35, 36], [40, 39, 33, 32, 22, 21, 17, 16, 9, 8, 1, 0, 7, 2, 6, 5, 3, 4, 15, 10, 14, 13, 11, 12, 20, 18, 19, 31, 25, 24, 23, 30, 29, 26, 28, 27, 38, 34, 37, 35, 36], [41, 40, 39, 33, 32, 22, 21, 17, 16, 9, 8, 1, 0, 7, 2, 6, 5, 3, 4, 15, 10, 14, 13, 11, 12, 20, 18, 19, 31, 25, 24, 23, 30, 29, 26, 28, 27, 38, 34, 37, 35, 36, 42], [40, 39, 33, 32, 22, 21, 17, 16, 9, 8, 1, 0, 7, 2, 6, 5, 3, 4, 15, 10, 14, 13, 11, 12, 20, 18, 19, 31, 25, 24, 23, 30, 29, 26, 28, 27, 38, 34, 37, 35, 36], [40, 39, 33, 32, 22, 21, 17, 16, 9, 8, 1, 0, 7, 2, 6, 5, 3, 4, 15, 10, 14, 13, 11, 12, 20, 18, 19, 31, 25, 24, 23, 30, 29, 26, 28, 27, 38, 34, 37, 35, 36], [44, 40, 39, 33, 32, 22, 21, 17, 16, 9, 8, 1, 0, 7, 2, 6, 5, 3, 4, 15, 10, 14, 13, 11, 12, 20, 18, 19, 31, 25, 24, 23, 30, 29, 26, 28, 27, 38, 34, 37, 35, 36, 45], [43, 41, 40, 39, 33, 32, 22, 21, 17, 16, 9, 8, 1, 0, 7, 2, 6, 5, 3, 4, 15, 10, 14, 13, 11, 12, 20, 18, 19, 31, 25, 24, 23, 30, 29, 26, 28, 27, 38, 34, 37, 35, 36, 42, 46, 44, 45], [40, 39, 33, 32, 22, 21, 17, 16, 9, 8, 1, 0, 7, 2, 6, 5, 3, 4, 15, 10, 14, 13, 11, 12, 20, 18, 19, 31, 25, 24, 23, 30, 29, 26, 28, 27, 38, 34, 37, 35, 36, 47, 43, 41, 42, 46, 44, 45], [48, 40, 39, 33, 32, 22, 21, 17, 16, 9, 8, 1, 0, 7, 2, 6, 5, 3, 4, 15, 10, 14, 13, 11, 12, 20, 18, 19, 31, 25, 24, 23, 30, 29, 26, 28, 27, 38, 34, 37, 35, 36, 47, 43, 41, 42, 46, 44, 45], [49, 48, 40, 39, 33, 32, 22, 21, 17, 16, 9, 8, 1, 0, 7, 2, 6, 5, 3, 4, 15, 10, 14, 13, 11, 12, 20, 18, 19, 31, 25, 24, 23, 30, 29, 26, 28, 27, 38, 34, 37, 35, 36, 47, 43, 41, 42, 46, 44, 45], [50, 49, 48, 40, 39, 33, 32, 22, 21, 17, 16, 9, 8, 1, 0, 7, 2, 6, 5, 3, 4, 15, 10, 14, 13, 11, 12, 20, 18, 19, 31, 25, 24, 23, 30, 29, 26, 28, 27, 38, 34, 37, 35, 36, 47, 43, 41, 42, 46, 44, 45], [49, 48, 40, 39, 33, 32, 22, 21, 17, 16, 9, 8, 1, 0, 7, 2, 6, 5, 3, 4, 15, 10, 14, 13, 11, 12, 20, 18, 19, 31, 25, 24, 23, 30, 29, 26, 28, 27, 38, 34, 37, 35, 36, 47, 43, 41, 42, 46, 44, 45, 51, 50], [52, 49, 48, 40, 39, 33, 32, 22, 21, 17, 16, 9, 8, 1, 0, 7, 2, 6, 5, 3, 4, 15, 10, 14, 13, 11, 12, 20, 18, 19, 31, 25, 24, 23, 30, 29, 26, 28, 27, 38, 34, 37, 35, 36, 47, 43, 41, 42, 46, 44, 45, 51, 50], [53, 52, 49, 48, 40, 39, 33, 32, 22, 21, 17, 16, 9, 8, 1, 0, 7, 2, 6, 5, 3, 4, 15, 10, 14, 13, 11, 12, 20, 18, 19, 31, 25, 24, 23, 30, 29, 26, 28, 27, 38, 34, 37, 35, 36, 47, 43, 41, 42, 46, 44, 45, 51, 50], [53, 52, 49, 48, 40, 39, 33, 32, 22, 21, 17, 16, 9, 8, 1, 0, 7, 2, 6, 5, 3, 4, 15, 10, 14, 13, 11, 12, 20, 18, 19, 31, 25, 24, 23, 30, 29, 26, 28, 27, 38, 34, 37, 35, 36, 47, 43, 41, 42, 46, 44, 45, 51, 50, 54], [55, 53, 52, 49, 48, 40, 39, 33, 32, 22, 21, 17, 16, 9, 8, 1, 0, 7, 2, 6, 5, 3, 4, 15, 10, 14, 13, 11, 12, 20, 18, 19, 31, 25, 24, 23, 30, 29, 26, 28, 27, 38, 34, 37, 35, 36, 47, 43, 41, 42, 46, 44, 45, 51, 50, 54]])]) noLs 0 (bodyOf Try.f4) 1000 (initL [.int .i64 a, .int .i64 b, .int .i64 c] 0) [] (finK Try.prog none Try.f4.results.toList r) = (
  Int.ofNat 17 ≠ 0 ∧
    Int.ofNat 17 ≠ 0 ∧
      Int.ofNat 18 ≠ 0 ∧
        ∀ (f0 : Nat → Int × Int),
          f0 = entF (place a 17) →
            ∀ (f2 : Nat → Int × Int),
              f2 = entF (place b 17) →
                ∃ f4 g5,
                  (arrF 16 f0) =
                      (arrF 16 f4) ∧
                    (arrF 16 f2) =
                        (arrF 16 g5) ∧
                      [V.bool false, V.list false [], V.int IntKind.i64 0, V.list false [], V.bool false, V.list false [], V.int IntKind.i64 0, V.list false []] = [V.bool false, V.list false [], V.int IntKind.i64 0, V.list false [], V.bool false, V.list false [], V.int IntKind.i64 0, V.list false []] ∧
                        ∀ (h6 : Nat → Int × Int),
                          h6 = joinF f4 g5 →
                            ∃ f8 : Nat → Int × Int,
                              (arrF 16 f0) =
                                  (arrF 16 f8) ∧
                                SOk
                                    (arrF 16 f0)
                                    [] [] ∧
                                  ∀ (g9 : Nat → Int × Int),
                                    g9 = cutF f8 (if 0 < if 16 < place c 18 then 16 else place c 18 then if 16 < place c 18 then 16 else place c 18 else 0) →
                                      (true = true →
                                          ∀ (z12 : Int),
                                            (z12 = if place b 17 < place a 17 then place b 17 else place a 17) →
                                              ∀ (f14 : Nat → Int × Int),
                                                f14 = entF z12 →
                                                  ∃ f16 g17,
                                                    (arrF 16 h6) =
                                                        (arrF 16 f16) ∧
                                                      (arrF 16 f14) =
                                                          (arrF 16 g17) ∧
                                                        [V.bool false, V.list false [], V.int IntKind.i64 0, V.list false [], V.bool false, V.list false [], V.int IntKind.i64 0, V.list false []] = [V.bool false, V.list false [], V.int IntKind.i64 0, V.list false [], V.bool false, V.list false [], V.int IntKind.i64 0, V.list false []] ∧
                                                          (sameB f16 g17 = true →
                                                              ∀ (z19 : Int),
                                                                (z19 = if place c 18 < place a 17 then place c 18 else place a 17) →
                                                                  ∀ (f21 : Nat → Int × Int),
                                                                    f21 = entF z19 →
                                                                      ∃ f23 g24,
                                                                        (arrF 16 g9) =
                                                                            (arrF 16 f23) ∧
                                                                          (arrF 16 f21) =
                                                                              (arrF 16 g24) ∧
                                                                            [V.bool false, V.list false [], V.int IntKind.i64 0, V.list false [], V.bool false, V.list false [], V.int IntKind.i64 0, V.list false []] = [V.bool false, V.list false [], V.int IntKind.i64 0, V.list false [], V.bool false, V.list false [], V.int IntKind.i64 0, V.list false []] ∧
                                                                              (sameB f23 g24 = true →
                                                                                  ∃ f26 : Nat → Int × Int,
                                                                                    (arrF 16 f0) =
                                                                                        (arrF 16 f26) ∧
                                                                                      (liveB f26 (place a 17) = true →
                                                                                          ∀ (x28 : Bool),
                                                                                            x28 = (place a 17 == 16) →
                                                                                              (x28 = true →
                                                                                                  (true = true →
                                                                                                      ∀ (z32 : Int),
                                                                                                        (z32 = if place c 18 < place a 17 then place c 18 else place a 17) →
                                                                                                          ∃ f34 : Nat → Int × Int,
                                                                                                            (arrF 16 g9) =
                                                                                                                (arrF 16 f34) ∧
                                                                                                              (liveB f34 z32 = true →
                                                                                                                  ∃ f36 g37,
                                                                                                                    (arrF 16 f0) =
                                                                                                                        (arrF 16 f36) ∧
                                                                                                                      (arrF 16 f2) =
                                                                                                                          (arrF 16 g37) ∧
                                                                                                                        [V.bool false, V.list false [], V.int IntKind.i64 0, V.list false [], V.bool false, V.list false [], V.int IntKind.i64 0, V.list false []] = [V.bool false, V.list false [], V.int IntKind.i64 0, V.list false [], V.bool false, V.list false [], V.int IntKind.i64 0, V.list false []] ∧
                                                                                                                          ∀ (x38 : Bool),
                                                                                                                            x38 = decide (place b 17 ≤ place a 17) →
                                                                                                                              ∀ (x40 : Bool),
                                                                                                                                x40 = (sameB (joinF f36 g37) g37 == x38) →
                                                                                                                                  (x40 = true →
                                                                                                                                      SOk
                                                                                                                                          (arrF 16 f0)
                                                                                                                                          [] [] ∧
                                                                                                                                        (readyB false [] = true → r = V.bool true) ∧ (readyB false [] = false → r = V.bool false)) ∧
                                                                                                                                    (x40 = false → r = V.bool false)) ∧
                                                                                                                (liveB f34 z32 = false → r = V.bool false)) ∧
                                                                                                    (true = false → r = V.bool false)) ∧
                                                                                                (x28 = false →
                                                                                                  ∀ (x49 : Int),
                                                                                                    x49 = IntKind.wrap IntKind.i64 (place a 17 + 1) →
                                                                                                      ∃ f51 : Nat → Int × Int,
                                                                                                        (arrF 16 f0) =
                                                                                                            (arrF 16 f51) ∧
                                                                                                          ∀ (x52 : Bool),
                                                                                                            x52 = !liveB f51 x49 →
                                                                                                              (x52 = true →
                                                                                                                  ∀ (z55 : Int),
                                                                                                                    (z55 = if place c 18 < place a 17 then place c 18 else place a 17) →
                                                                                                                      ∃ f57 : Nat → Int × Int,
                                                                                                                        (arrF 16 g9) =
                                                                                                                            (arrF 16 f57) ∧
                                                                                                                          (liveB f57 z55 = true →
                                                                                                                              ∃ f59 g60,
                                                                                                                                (arrF 16 f0) =
                                                                                                                                    (arrF 16 f59) ∧
                                                                                                                                  (arrF 16 f2) =
                                                                                                                                      (arrF 16 g60) ∧
                                                                                                                                    [V.bool false, V.list false [], V.int IntKind.i64 0, V.list false [], V.bool false, V.list false [], V.int IntKind.i64 0, V.list false []] =
                                                                                                                                        [V.bool false, V.list false [], V.int IntKind.i64 0, V.list false [], V.bool false, V.list false [], V.int IntKind.i64 0, V.list false []] ∧
                                                                                                                                      ∀ (x61 : Bool),
                                                                                                                                        x61 = decide (place b 17 ≤ place a 17) →
                                                                                                                                          ∀ (x63 : Bool),
                                                                                                                                            x63 = (sameB (joinF f59 g60) g60 == x61) →
                                                                                                                                              (x63 = true →
                                                                                                                                                  SOk
                                                                                                                                                      (arrF 16 f0)
                                                                                                                                                      [] [] ∧
                                                                                                                                                    (readyB false [] = true → r = V.bool true) ∧ (readyB false [] = false → r = V.bool false)) ∧
                                                                                                                                                (x63 = false → r = V.bool false)) ∧
                                                                                                                            (liveB f57 z55 = false → r = V.bool false)) ∧
                                                                                                                (x52 = false → r = V.bool false))) ∧
                                                                                        (liveB f26 (place a 17) = false → r = V.bool false)) ∧
                                                                                (sameB f23 g24 = false → r = V.bool false)) ∧
                                                            (sameB f16 g17 = false → r = V.bool false)) ∧
                                        (true = false → r = V.bool false)) := by kernel_rfl
end GoL
