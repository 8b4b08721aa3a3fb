/- A part of the proof: a logic for programs of this kind, proved sound over the model; contracts of functions; plain laws. -/
import Derived.Test.YtegbngnjdpihhaaVD
set_option linter.all false
open Go Go.Proofs
namespace GoL
set_option linter.unusedVariables false
set_option maxRecDepth 100000
theorem n18h (f : Nat → Int × Int) (fr : Bool) (ys ts : List V) (rm : Int) (r : V) (ks : List Blk) : wC Try.prog sp18 26 (hintOf [(6999, 1014)]) (prsOf []) noLs 0 (bodyOf Try.f18) 1000 (initL [.agg [.agg (arrF 16 f), .bool fr, .list false ys, .int .i64 rm, .list false ts]] 0) [] (finC Try.prog none Try.f18.results.toList [1005] fun v bs => r = v ∧ ks = bs) = (
 List.length ys ≤ 9223372036854775807 →
 ∀ (x1 : Int),
 x1 = ↑(List.length ys) →
 (0 ≤ x1 ∧ x1 ≤ x1 ∧ x1 ≤ ↑9223372036854775807 ∧ ↑16 * x1 ≤ 281474976710656 ∧ true = true) ∧
 (True →
 (Int.toNat x1 = List.length (List.replicate (Int.toNat x1) (V.agg [V.int IntKind.i64 0, V.int IntKind.i64 0])) ∧ 25 = 25 ∧ some 2 = some 2 ∧ True ∧ (∀ (v4 : V), List.Mem v4 ys → V.sz v4 = 2) ∧ (∀ (j6 : Nat), V.list false ys ≠ V.sl 1005 j6) ∧ ∀ (s7 : List UInt8), V.list false ys ≠ V.str s7) ∧
 (True →
 ∀ (x9 : Int),
 x9 = ↑(min (List.length ys) (List.length (List.replicate (Int.toNat x1) (V.agg [V.int IntKind.i64 0, V.int IntKind.i64 0])))) →
 List.length ts ≤ 9223372036854775807 →
 ∀ (x12 : Int),
 x12 = ↑(List.length ts) →
 (0 ≤ x12 ∧ x12 ≤ x12 ∧ x12 ≤ ↑9223372036854775807 ∧ ↑8 * x12 ≤ 281474976710656 ∧ true = true) ∧
 (True →
 (Int.toNat x12 = List.length (List.replicate (Int.toNat x12) (V.int IntKind.i64 0)) ∧ 3 = 3 ∧ some 1 = some 1 ∧ True ∧ (∀ (v15 : V), List.Mem v15 ts → V.sz v15 = 1) ∧ (∀ (j17 : Nat), V.list false ts ≠ V.sl 1014 j17) ∧ ∀ (s18 : List UInt8), V.list false ts ≠ V.str s18) ∧
 (True →
 ∀ (x20 : Int),
 x20 = ↑(min (List.length ts) (List.length (List.replicate (Int.toNat x12) (V.int IntKind.i64 0)))) →
 Int.toNat x12 = List.length (List.take (List.length (List.replicate (Int.toNat x12) (V.int IntKind.i64 0))) ts ++ List.drop (List.length ts) (List.replicate (Int.toNat x12) (V.int IntKind.i64 0))) ∧
 r =
 V.agg
 [V.agg
 (arrF 16 f),
 V.bool fr, V.sl 1005 (Int.toNat x1), V.int IntKind.i64 rm, V.list false (List.take (List.length (List.replicate (Int.toNat x12) (V.int IntKind.i64 0))) ts ++ List.drop (List.length ts) (List.replicate (Int.toNat x12) (V.int IntKind.i64 0)))] ∧
 ks = [⟨some 25, false, V.agg (List.take (List.length (List.replicate (Int.toNat x1) (V.agg [V.int IntKind.i64 0, V.int IntKind.i64 0]))) ys ++ List.drop (List.length ys) (List.replicate (Int.toNat x1) (V.agg [V.int IntKind.i64 0, V.int IntKind.i64 0])))⟩]))))) := by kernel_rfl
theorem n6h (n : Int) (r : V) (ks : List Blk) : wC Try.prog sp6 21 (hintOf [(5004, 26), (7004, 26)]) (prsOf []) ls6 0 (bodyOf Try.f6) 1000 (initL [.int .i64 n] 0) [] (finH Try.prog none Try.f6.results.toList [] fun v bs => r = v ∧ ks = bs) = (
 Int.ofNat 0 = 0 ∧
 V.agg
 [V.agg
 (arrF 16 zF),
 V.bool false, V.nils, V.int IntKind.i64 0, V.nils] =
 V.agg
 [V.agg
 (arrF 16 zF),
 V.bool false, V.nils, V.int IntKind.i64 0, V.nils] ∧
 Int.ofNat 0 = 0 ∧
 (∃ f0 : Nat → Int × Int,
 (arrF 16 zF) =
 (arrF 16 f0)) ∧
 r =
 V.agg
 [V.agg
 (arrF 16 (entF n)),
 V.bool false, V.nils, V.int IntKind.i64 0, V.nils] ∧
 ks = []) := by kernel_rfl
theorem n7 (f : Nat → Int × Int) (fr : Bool) (ys ts : List V) (rm : Int) (n m a : Int) (ls : List V) (r : V) : wC Try.prog sp7 64 (hintOf [(3006, 26), (7007, 25)]) (prsOf [(3, [[], [0], [], [2], [], [4, 1, 0, 2, 3], [5, 4, 1, 0, 2, 3]]), (7, [[], [0], [], [2], [], [4], [1, 0, 3, 2, 4, 5], [6, 1, 0, 3, 2, 4, 5]])]) noLs 0 (bodyOf Try.f7) 1000 (initL [.agg [.agg (arrF 16 f), .bool fr, .list false ys, .int .i64 rm, .list false ts], .agg [.int .i64 4, .int .i64 n, .list false ls], .agg [.int .i64 m, .int .i64 a]] 0) [] (finK Try.prog none Try.f7.results.toList r) = (
 ∀ (x0 : Bool),
 x0 = (4 == 3) →
 (x0 = true →
 ∀ (x3 : Bool),
 x3 = decide (n ≥ 0) →
 (x3 = true →
 ∀ (x6 : Bool),
 x6 = decide (n < 16) →
 (x6 = true →
 SOk
 (arrF 16 f)
 ys ts ∧
 ∀ (zs9 : List V),
 zs9 = ys →
 0 ≤ n ∧
 n < ↑16 ∧
 offQ
 (V.agg
 (arrF 16 f))
 [Int.toNat n] +
 0 =
 0 + Int.toNat n * 2 ∧
 (∃ u11,
 subQ
 (V.agg
 (arrF 16 f))
 [Int.toNat n] =
 some u11 ∧
 V.sz (V.agg [V.int IntKind.i64 (meet m a (-1)).1, V.int IntKind.i64 (meet m a (-1)).2]) = V.sz u11) ∧
 ∃ f12 : Nat → Int × Int,
 V.agg
 (arrF 16 f12) =
 updQ (V.agg [V.int IntKind.i64 (meet m a (-1)).1, V.int IntKind.i64 (meet m a (-1)).2])
 (V.agg
 (arrF 16 f))
 [Int.toNat n] ∧
 List.length zs9 = List.length zs9 ∧
 r =
 V.tup
 [V.agg
 [V.agg
 (arrF 16 f12),
 V.bool fr, V.list false zs9, V.int IntKind.i64 rm, V.list false ts],
 V.bool true]) ∧
 (x6 = false →
 ∀ (x14 : Bool),
 x14 = (4 == 4) →
 (x14 = true →
 SOk
 (arrF 16 f)
 ys ts ∧
 (slotB fr ys n = true →
 0 ≤ n ∧
 n < ↑(List.length ys) ∧
 ∃ n18 n19,
 getV ys n = V.agg [V.int IntKind.i64 n18, V.int IntKind.i64 n19] ∧
 ∀ (x20 : Int),
 x20 = bits BinOp.and IntKind.i64 (meet n18 n19 (-1)).1 256 →
 ∀ (x22 : Bool),
 x22 = (x20 == 0) →
 (x22 = true →
 SOk
 (arrF 16 f)
 ys ts ∧
 ∀ (zs25 : List V),
 zs25 = ys →
 List.length zs25 = List.length zs25 ∧
 0 ≤ n ∧
 n < ↑(List.length zs25) ∧
 some 2 = some 2 ∧
 List.length zs25 = List.length zs25 ∧
 [Int.toNat n] ≠ [] ∧
 offQ (V.agg zs25) [Int.toNat n] = Int.toNat n * 2 ∧
 (∃ u27, subQ (V.agg zs25) [Int.toNat n] = some u27 ∧ V.sz (V.agg [V.int IntKind.i64 (meet m a (-1)).1, V.int IntKind.i64 (meet m a (-1)).2]) = V.sz u27 ∧ V.sz (V.agg [V.int IntKind.i64 (meet m a (-1)).1, V.int IntKind.i64 (meet m a (-1)).2]) = V.sz u27) ∧
 ∃ rows'28,
 V.agg rows'28 = updQ (V.agg [V.int IntKind.i64 (meet m a (-1)).1, V.int IntKind.i64 (meet m a (-1)).2]) (V.agg zs25) [Int.toNat n] ∧
 List.length zs25 = List.length rows'28 ∧
 r =
 V.tup
 [V.agg
 [V.agg
 (arrF 16 f),
 V.bool fr, V.list false rows'28, V.int IntKind.i64 rm, V.list false ts],
 V.bool true]) ∧
 (x22 = false →
 r =
 V.tup
 [V.agg
 [V.agg
 (arrF 16 f),
 V.bool fr, V.list false ys, V.int IntKind.i64 rm, V.list false ts],
 V.bool false])) ∧
 (slotB fr ys n = false →
 r =
 V.tup
 [V.agg
 [V.agg
 (arrF 16 f),
 V.bool fr, V.list false ys, V.int IntKind.i64 rm, V.list false ts],
 V.bool false])) ∧
 (x14 = false →
 r =
 V.tup
 [V.agg
 [V.agg
 (arrF 16 f),
 V.bool fr, V.list false ys, V.int IntKind.i64 rm, V.list false ts],
 V.bool false]))) ∧
 (x3 = false →
 ∀ (x33 : Bool),
 x33 = (4 == 4) →
 (x33 = true →
 SOk
 (arrF 16 f)
 ys ts ∧
 (slotB fr ys n = true →
 0 ≤ n ∧
 n < ↑(List.length ys) ∧
 ∃ n37 n38,
 getV ys n = V.agg [V.int IntKind.i64 n37, V.int IntKind.i64 n38] ∧
 ∀ (x39 : Int),
 x39 = bits BinOp.and IntKind.i64 (meet n37 n38 (-1)).1 256 →
 ∀ (x41 : Bool),
 x41 = (x39 == 0) →
 (x41 = true →
 SOk
 (arrF 16 f)
 ys ts ∧
 ∀ (zs44 : List V),
 zs44 = ys →
 List.length zs44 = List.length zs44 ∧
 0 ≤ n ∧
 n < ↑(List.length zs44) ∧
 some 2 = some 2 ∧
 List.length zs44 = List.length zs44 ∧
 [Int.toNat n] ≠ [] ∧
 offQ (V.agg zs44) [Int.toNat n] = Int.toNat n * 2 ∧
 (∃ u46, subQ (V.agg zs44) [Int.toNat n] = some u46 ∧ V.sz (V.agg [V.int IntKind.i64 (meet m a (-1)).1, V.int IntKind.i64 (meet m a (-1)).2]) = V.sz u46 ∧ V.sz (V.agg [V.int IntKind.i64 (meet m a (-1)).1, V.int IntKind.i64 (meet m a (-1)).2]) = V.sz u46) ∧
 ∃ rows'47,
 V.agg rows'47 = updQ (V.agg [V.int IntKind.i64 (meet m a (-1)).1, V.int IntKind.i64 (meet m a (-1)).2]) (V.agg zs44) [Int.toNat n] ∧
 List.length zs44 = List.length rows'47 ∧
 r =
 V.tup
 [V.agg
 [V.agg
 (arrF 16 f),
 V.bool fr, V.list false rows'47, V.int IntKind.i64 rm, V.list false ts],
 V.bool true]) ∧
 (x41 = false →
 r =
 V.tup
 [V.agg
 [V.agg
 (arrF 16 f),
 V.bool fr, V.list false ys, V.int IntKind.i64 rm, V.list false ts],
 V.bool false])) ∧
 (slotB fr ys n = false →
 r =
 V.tup
 [V.agg
 [V.agg
 (arrF 16 f),
 V.bool fr, V.list false ys, V.int IntKind.i64 rm, V.list false ts],
 V.bool false])) ∧
 (x33 = false →
 r =
 V.tup
 [V.agg
 [V.agg
 (arrF 16 f),
 V.bool fr, V.list false ys, V.int IntKind.i64 rm, V.list false ts],
 V.bool false]))) ∧
 (x0 = false →
 ∀ (x52 : Bool),
 x52 = (4 == 4) →
 (x52 = true →
 SOk
 (arrF 16 f)
 ys ts ∧
 (slotB fr ys n = true →
 0 ≤ n ∧
 n < ↑(List.length ys) ∧
 ∃ n56 n57,
 getV ys n = V.agg [V.int IntKind.i64 n56, V.int IntKind.i64 n57] ∧
 ∀ (x58 : Int),
 x58 = bits BinOp.and IntKind.i64 (meet n56 n57 (-1)).1 256 →
 ∀ (x60 : Bool),
 x60 = (x58 == 0) →
 (x60 = true →
 SOk
 (arrF 16 f)
 ys ts ∧
 ∀ (zs63 : List V),
 zs63 = ys →
 List.length zs63 = List.length zs63 ∧
 0 ≤ n ∧
 n < ↑(List.length zs63) ∧
 some 2 = some 2 ∧
 List.length zs63 = List.length zs63 ∧
 [Int.toNat n] ≠ [] ∧
 offQ (V.agg zs63) [Int.toNat n] = Int.toNat n * 2 ∧
 (∃ u65, subQ (V.agg zs63) [Int.toNat n] = some u65 ∧ V.sz (V.agg [V.int IntKind.i64 (meet m a (-1)).1, V.int IntKind.i64 (meet m a (-1)).2]) = V.sz u65 ∧ V.sz (V.agg [V.int IntKind.i64 (meet m a (-1)).1, V.int IntKind.i64 (meet m a (-1)).2]) = V.sz u65) ∧
 ∃ rows'66,
 V.agg rows'66 = updQ (V.agg [V.int IntKind.i64 (meet m a (-1)).1, V.int IntKind.i64 (meet m a (-1)).2]) (V.agg zs63) [Int.toNat n] ∧
 List.length zs63 = List.length rows'66 ∧
 r =
 V.tup
 [V.agg
 [V.agg
 (arrF 16 f),
 V.bool fr, V.list false rows'66, V.int IntKind.i64 rm, V.list false ts],
 V.bool true]) ∧
 (x60 = false →
 r =
 V.tup
 [V.agg
 [V.agg
 (arrF 16 f),
 V.bool fr, V.list false ys, V.int IntKind.i64 rm, V.list false ts],
 V.bool false])) ∧
 (slotB fr ys n = false →
 r =
 V.tup
 [V.agg
 [V.agg
 (arrF 16 f),
 V.bool fr, V.list false ys, V.int IntKind.i64 rm, V.list false ts],
 V.bool false])) ∧
 (x52 = false →
 r =
 V.tup
 [V.agg
 [V.agg
 (arrF 16 f),
 V.bool fr, V.list false ys, V.int IntKind.i64 rm, V.list false ts],
 V.bool false]))) := by kernel_rfl
theorem n9 (f : Nat → Int × Int) (fr : Bool) (ys ts : List V) (rm : Int) (n : Int) (ls ms : List V) (r : V) : wC Try.prog sp9 67 (hintOf [(4004, 25)]) (prsOf []) noLs 0 (bodyOf Try.f9) 1000 (initL [.agg [.agg (arrF 16 f), .bool fr, .list false ys, .int .i64 rm, .list false ts], .agg [.int .i64 4, .int .i64 n, .list false ls], .list false ms] 0) [] (finK Try.prog none Try.f9.results.toList r) = (
 ∀ (x0 : Bool),
 x0 = (4 == 3) →
 (x0 = true →
 ∀ (x3 : Bool),
 x3 = decide (n ≥ 0) →
 (x3 = true →
 ∀ (x6 : Bool),
 x6 = decide (n < 16) →
 (x6 = true →
 0 ≤ n ∧
 n < ↑16 ∧
 ∃ n9 n10,
 subQ
 (V.agg
 [V.agg
 (arrF 16 f),
 V.bool fr, V.list false ys, V.int IntKind.i64 rm, V.list false ts])
 [0, Int.toNat n] =
 some (V.agg [V.int IntKind.i64 n9, V.int IntKind.i64 n10]) ∧
 offQ
 (V.agg
 [V.agg
 (arrF 16 f),
 V.bool fr, V.list false ys, V.int IntKind.i64 rm, V.list false ts])
 [0, Int.toNat n] =
 0 + Int.toNat n * 2 ∧
 r = V.agg [V.int IntKind.i64 (meet n9 n10 (-1)).1, V.int IntKind.i64 (meet n9 n10 (-1)).2]) ∧
 (x6 = false → r = V.agg [V.int IntKind.i64 0, V.int IntKind.i64 (-1)])) ∧
 (x3 = false → r = V.agg [V.int IntKind.i64 0, V.int IntKind.i64 (-1)])) ∧
 (x0 = false →
 ∀ (x14 : Bool),
 x14 = (4 == 4) →
 (x14 = true →
 SOk
 (arrF 16 f)
 ys ts ∧
 (slotB fr ys n = true → 0 ≤ n ∧ n < ↑(List.length ys) ∧ ∃ n18 n19, getV ys n = V.agg [V.int IntKind.i64 n18, V.int IntKind.i64 n19] ∧ r = V.agg [V.int IntKind.i64 (meet n18 n19 (-1)).1, V.int IntKind.i64 (meet n18 n19 (-1)).2]) ∧ (slotB fr ys n = false → r = V.agg [V.int IntKind.i64 0, V.int IntKind.i64 (-1)])) ∧
 (x14 = false →
 ∀ (x22 : Bool),
 x22 = (4 == 1) →
 (x22 = true → r = V.agg [V.int IntKind.i64 1, V.int IntKind.i64 (-1)]) ∧
 (x22 = false →
 ∀ (x26 : Bool),
 x26 = (4 == 2) →
 (x26 = true → ∀ (x29 : Bool), x29 = (n == 0) → (x29 = true → r = V.agg [V.int IntKind.i64 4, V.int IntKind.i64 (-1)]) ∧ (x29 = false → r = V.agg [V.int IntKind.i64 2, V.int IntKind.i64 (-1)])) ∧
 (x26 = false →
 ∀ (x34 : Bool),
 x34 = (4 == 6) →
 (x34 = true →
 ∀ (x37 : Bool),
 x37 = decide (n ≥ 0) →
 (x37 = true →
 List.length ms ≤ 9223372036854775807 →
 ∀ (x41 : Int),
 x41 = ↑(List.length ms) →
 ∀ (x43 : Bool), x43 = decide (n < x41) → (x43 = true → 0 ≤ n ∧ n < ↑(List.length ms) ∧ ∃ n46 b47 l48 s49 n50 l51, getV ms n = V.agg [V.int IntKind.i64 n46, V.agg [V.bool b47, V.list false l48], V.str s49, V.int IntKind.i64 n50, V.list false l51] ∧ False) ∧ (x43 = false → r = V.agg [V.int IntKind.i64 0, V.int IntKind.i64 (-1)])) ∧
 (x37 = false → r = V.agg [V.int IntKind.i64 0, V.int IntKind.i64 (-1)])) ∧
 (x34 = false → r = V.agg [V.int IntKind.i64 0, V.int IntKind.i64 (-1)])))))) := by kernel_rfl
theorem nl3_0 (n m x y : Int) (p : Bool) (f : Nat → Int × Int) (rows : List V) (i : Int) (Nx Ex Rt : List V → List Blk → Prop) : wC Try.prog sp3 136 noHint (prsOf [(5, [[], [], [], [0, 1, 2], [3, 0, 1, 2], [4, 3, 0, 1, 2], [4, 3, 0, 1, 2], [], [7, 5, 4, 3, 0, 1, 2], [6, 4, 3, 0, 1, 2, 8, 7, 5]]), (11, [[], [], [1], [], [0, 2, 1, 3], [4, 0, 2, 1, 3], [5, 4, 0, 2, 1, 3], [5, 4, 0, 2, 1, 3], [], [8, 6, 5, 4, 0, 2, 1, 3], [7, 5, 4, 0, 2, 1, 3, 9, 8, 6]]), (12, [[], [], [1], [], [0, 2, 1, 3], [4, 0, 2, 1, 3], [5, 4, 0, 2, 1, 3], [5, 4, 0, 2, 1, 3], [], [8, 6, 5, 4, 0, 2, 1, 3], [7, 5, 4, 0, 2, 1, 3, 9, 8, 6]]), (13, [[], [], [1], [], [0, 2, 1, 3], [4, 0, 2, 1, 3], [5, 4, 0, 2, 1, 3], [5, 4, 0, 2, 1, 3], [], [8, 6, 5, 4, 0, 2, 1, 3], [7, 5, 4, 0, 2, 1, 3, 9, 8, 6]]), (14, [[], [], [1], [], [0, 2, 1, 3], [4, 0, 2, 1, 3], [5, 4, 0, 2, 1, 3], [5, 4, 0, 2, 1, 3], [], [8, 6, 5, 4, 0, 2, 1, 3], [7, 5, 4, 0, 2, 1, 3, 9, 8, 6]]), (15, [[], [], [1], [0, 2, 1], [], [4, 3, 0, 2, 1]]), (16, [[], [], [1], [0, 2, 1], [], [4, 3, 0, 2, 1]])]) noLs 0 (lcode Try.f3 0).2 1033 (List.zip [7, 8, 9, 10, 12, 13] [.int .i64 n, .int .i64 m, .ptr 1014 0 [], .ptr 1017 0 [], .bool p, .int .i64 i]) (List.zip [1014, 1017, 1032] [⟨none, false, .agg [.int .i64 x, .int .i64 y]⟩, ⟨none, false, .agg [.agg (arrF 16 f), .bool true, .sl 1032 rows.length, .int .i64 0, .nils]⟩, ⟨some 25, false, .agg rows⟩]) (endK ends3_0 Nx Ex Rt) = (
 ∀ (x0 : Bool),
 x0 = decide (i < n) →
 (x0 = true →
 (List.length rows = List.length rows ∧
 25 = 25 ∧
 ((true || false) = true ∧ True) ∧
 (∀ (v3 : V), List.Mem v3 [V.agg [V.int IntKind.i64 0, V.int IntKind.i64 (-1)]] → V.sz v3 = 2) ∧ some 2 = some 2 ∧ true = true ∧ ∃ b5, some 16 = some b5 ∧ (List.length rows + List.length [V.agg [V.int IntKind.i64 0, V.int IntKind.i64 (-1)]]) * b5 ≤ 140737488355328 ∧ List.length rows + List.length [V.agg [V.int IntKind.i64 0, V.int IntKind.i64 (-1)]] ≤ 9223372036854775807) ∧
 (True →
 ∀ (x7 : Int),
 x7 = IntKind.wrap IntKind.i64 (i + 1) →
 (∀ (v9 : V), List.Mem v9 (rows ++ [V.agg [V.int IntKind.i64 0, V.int IntKind.i64 (-1)]]) → V.ids v9 = []) ∧
 Nx [V.int IntKind.i64 n, V.int IntKind.i64 m, V.ptr 1014 0 [], V.ptr 1017 0 [], V.bool p, V.int IntKind.i64 x7]
 [⟨none, false, V.agg [V.int IntKind.i64 x, V.int IntKind.i64 y]⟩,
 ⟨none, false, V.agg
 [V.agg
 (arrF 16 f),
 V.bool true, V.sl 1032 (List.length rows + List.length [V.agg [V.int IntKind.i64 0, V.int IntKind.i64 (-1)]]), V.int IntKind.i64 0, V.nils]⟩,
 ⟨some 25, false, V.agg (rows ++ [V.agg [V.int IntKind.i64 0, V.int IntKind.i64 (-1)]])⟩])) ∧
 (x0 = false →
 (∀ (v12 : V), List.Mem v12 rows → V.ids v12 = []) ∧
 Ex [V.int IntKind.i64 n, V.int IntKind.i64 m, V.ptr 1014 0 [], V.ptr 1017 0 [], V.bool p]
 [⟨none, false, V.agg [V.int IntKind.i64 x, V.int IntKind.i64 y]⟩,
 ⟨none, false, V.agg
 [V.agg
 (arrF 16 f),
 V.bool true, V.sl 1032 (List.length rows), V.int IntKind.i64 0, V.nils]⟩,
 ⟨some 25, false, V.agg rows⟩])) := by kernel_rfl
theorem n3 (a b c : Int) (r : V) : wC Try.prog sp3 136 noHint (prsOf [(5, [[], [], [], [0, 1, 2], [3, 0, 1, 2], [4, 3, 0, 1, 2], [4, 3, 0, 1, 2], [], [7, 5, 4, 3, 0, 1, 2], [6, 4, 3, 0, 1, 2, 8, 7, 5]]), (11, [[], [], [1], [], [0, 2, 1, 3], [4, 0, 2, 1, 3], [5, 4, 0, 2, 1, 3], [5, 4, 0, 2, 1, 3], [], [8, 6, 5, 4, 0, 2, 1, 3], [7, 5, 4, 0, 2, 1, 3, 9, 8, 6]]), (12, [[], [], [1], [], [0, 2, 1, 3], [4, 0, 2, 1, 3], [5, 4, 0, 2, 1, 3], [5, 4, 0, 2, 1, 3], [], [8, 6, 5, 4, 0, 2, 1, 3], [7, 5, 4, 0, 2, 1, 3, 9, 8, 6]]), (13, [[], [], [1], [], [0, 2, 1, 3], [4, 0, 2, 1, 3], [5, 4, 0, 2, 1, 3], [5, 4, 0, 2, 1, 3], [], [8, 6, 5, 4, 0, 2, 1, 3], [7, 5, 4, 0, 2, 1, 3, 9, 8, 6]]), (14, [[], [], [1], [], [0, 2, 1, 3], [4, 0, 2, 1, 3], [5, 4, 0, 2, 1, 3], [5, 4, 0, 2, 1, 3], [], [8, 6, 5, 4, 0, 2, 1, 3], [7, 5, 4, 0, 2, 1, 3, 9, 8, 6]]), (15, [[], [], [1], [0, 2, 1], [], [4, 3, 0, 2, 1]]), (16, [[], [], [1], [0, 2, 1], [], [4, 3, 0, 2, 1]])]) ls3 0 (bodyOf Try.f3) 1000 (initL [.int .i64 a, .int .i64 b, .int .i64 c] 0) [] (finK Try.prog none Try.f3.results.toList r) = (
 Int.ofNat 12 ≠ 0 ∧
 ∀ (x0 : Int),
 x0 = IntKind.wrap IntKind.i64 (1 + place a 12) →
 x0 ≠ 0 ∧
 Int.ofNat 7 ≠ 0 ∧
 true = true ∧
 (True →
 ∀ (x3 : Int),
 x3 = IntKind.wrap IntKind.u64 (place c 7) →
 0 ≤ x3 ∧
 (True →
 ∀ (x6 : Int),
 x6 = IntKind.wrap IntKind.i64 (1 * 2 ^ min (Int.toNat x3) 64) →
 ∀ (f8 : Nat → Int × Int),
 f8 = entF 1 →
 Int.ofNat 4 = 4 ∧
 SOk
 (arrF 16 f8)
 [] [] ∧
 (putOk false [] 0 = true →
 ∀ (zs11 : List V),
 zs11 = [] →
 Int.ofNat 0 = 0 ∧
 0 ≤ x0 ∧
 x0 ≤ 100 ∧
 ∃ f13 : Nat → Int × Int,
 (arrF 16 f8) =
 (arrF 16 f13) ∧
 [V.bool true, V.nils, V.int IntKind.i64 0, V.nils] = [V.bool true, V.nils, V.int IntKind.i64 0, V.nils] ∧
 ∀ (rows14 : List V),
 rows14 = List.replicate (Int.toNat x0) (V.agg [V.int IntKind.i64 0, V.int IntKind.i64 (-1)]) →
 List.length rows14 = List.length rows14 ∧
 Int.ofNat 4 = 4 ∧
 SOk
 (arrF 16 f13)
 rows14 [] ∧
 (putOk true rows14 (place b x0) = true →
 ∀ (zs17 : List V),
 zs17 = putY rows14 (place b x0) x6 (-1) →
 Int.ofNat 4 = 4 ∧
 SOk
 (arrF 16 f13)
 zs17 [] ∧
 (putOk true zs17 (place b x0) = true →
 ∀ (zs20 : List V),
 zs20 = putY zs17 (place b x0) 256 7 →
 Int.ofNat 4 = 4 ∧
 SOk
 (arrF 16 f13)
 zs20 [] ∧
 (putOk true zs20 (place b x0) = true →
 ∀ (zs23 : List V),
 zs23 = putY zs20 (place b x0) x6 (-1) →
 List.length rows14 = List.length rows14 ∧
 Int.ofNat 4 = 4 ∧
 SOk
 (arrF 16 f13)
 rows14 [] ∧
 (putOk true rows14 x0 = true →
 ∀ (zs26 : List V),
 zs26 = putY rows14 x0 x6 (-1) →
 Int.ofNat 4 = 4 ∧
 SOk
 (arrF 16 f13)
 zs17 [] ∧
 ∀ (q28 : Int × Int),
 q28 = srcK true zs17 (place b x0) →
 List.length rows14 = List.length rows14 ∧
 Int.ofNat 4 = 4 ∧
 SOk
 (arrF 16 f13)
 rows14 [] ∧
 ∀ (q30 : Int × Int),
 q30 = srcK true rows14 (place b x0) →
 ∀ (x32 : Bool),
 x32 = !true →
 (x32 = true →
 (true = true →
 (true = true →
 ∀ (x37 : Bool),
 x37 = !true →
 (x37 = true →
 ∀ (x40 : Bool),
 x40 = !true →
 (x40 = true →
 StructEq Try.prog 25 ∧
 (True →
 ∀ (x44 : Bool),
 x44 = (q28.1 == x6 && q28.2 == -1) →
 (x44 = true →
 ∀ (x47 : Bool),
 x47 = (q30.1 == 0) →
 (x47 = true →
 SOk
 (arrF 16 f13)
 zs17 [] ∧
 ∀ (x50 : Bool),
 x50 = (x0 == 1) →
 ∀ (x52 : Bool),
 x52 = (readyB true zs17 == x50) →
 (x52 = true →
 List.length rows14 = List.length rows14 ∧
 SOk
 (arrF 16 f13)
 rows14 [] ∧
 ∀ (x55 : Bool), x55 = !readyB true rows14 → (x55 = true → r = V.bool true) ∧ (x55 = false → r = V.bool false)) ∧
 (x52 = false → r = V.bool false)) ∧
 (x47 = false → r = V.bool false)) ∧
 (x44 = false → r = V.bool false))) ∧
 (x40 = false → r = V.bool false)) ∧
 (x37 = false → r = V.bool false)) ∧
 (true = false → r = V.bool false)) ∧
 (true = false → r = V.bool false)) ∧
 (x32 = false → r = V.bool false)) ∧
 (putOk true rows14 x0 = false →
 Int.ofNat 4 = 4 ∧
 SOk
 (arrF 16 f13)
 zs17 [] ∧
 ∀ (q68 : Int × Int),
 q68 = srcK true zs17 (place b x0) →
 List.length rows14 = List.length rows14 ∧
 Int.ofNat 4 = 4 ∧
 SOk
 (arrF 16 f13)
 rows14 [] ∧
 ∀ (q70 : Int × Int),
 q70 = srcK true rows14 (place b x0) →
 ∀ (x72 : Bool),
 x72 = !true →
 (x72 = true →
 (true = true →
 (true = true →
 ∀ (x77 : Bool),
 x77 = !true →
 (x77 = true →
 ∀ (x80 : Bool),
 x80 = !false →
 (x80 = true →
 StructEq Try.prog 25 ∧
 (True →
 ∀ (x84 : Bool),
 x84 = (q68.1 == x6 && q68.2 == -1) →
 (x84 = true →
 ∀ (x87 : Bool),
 x87 = (q70.1 == 0) →
 (x87 = true →
 SOk
 (arrF 16 f13)
 zs17 [] ∧
 ∀ (x90 : Bool),
 x90 = (x0 == 1) →
 ∀ (x92 : Bool),
 x92 = (readyB true zs17 == x90) →
 (x92 = true →
 List.length rows14 = List.length rows14 ∧
 SOk
 (arrF 16 f13)
 rows14 [] ∧
 ∀ (x95 : Bool), x95 = !readyB true rows14 → (x95 = true → r = V.bool true) ∧ (x95 = false → r = V.bool false)) ∧
 (x92 = false → r = V.bool false)) ∧
 (x87 = false → r = V.bool false)) ∧
 (x84 = false → r = V.bool false))) ∧
 (x80 = false → r = V.bool false)) ∧
 (x77 = false → r = V.bool false)) ∧
 (true = false → r = V.bool false)) ∧
 (true = false → r = V.bool false)) ∧
 (x72 = false → r = V.bool false))) ∧
 (putOk true zs20 (place b x0) = false →
 List.length rows14 = List.length rows14 ∧
 Int.ofNat 4 = 4 ∧
 SOk
 (arrF 16 f13)
 rows14 [] ∧
 (putOk true rows14 x0 = true →
 ∀ (zs109 : List V),
 zs109 = putY rows14 x0 x6 (-1) →
 Int.ofNat 4 = 4 ∧
 SOk
 (arrF 16 f13)
 zs17 [] ∧
 ∀ (q111 : Int × Int),
 q111 = srcK true zs17 (place b x0) →
 List.length rows14 = List.length rows14 ∧
 Int.ofNat 4 = 4 ∧
 SOk
 (arrF 16 f13)
 rows14 [] ∧
 ∀ (q113 : Int × Int),
 q113 = srcK true rows14 (place b x0) →
 ∀ (x115 : Bool),
 x115 = !true →
 (x115 = true →
 (true = true →
 (true = true →
 ∀ (x120 : Bool),
 x120 = !false →
 (x120 = true →
 ∀ (x123 : Bool),
 x123 = !true →
 (x123 = true →
 StructEq Try.prog 25 ∧
 (True →
 ∀ (x127 : Bool),
 x127 = (q111.1 == x6 && q111.2 == -1) →
 (x127 = true →
 ∀ (x130 : Bool),
 x130 = (q113.1 == 0) →
 (x130 = true →
 SOk
 (arrF 16 f13)
 zs17 [] ∧
 ∀ (x133 : Bool),
 x133 = (x0 == 1) →
 ∀ (x135 : Bool),
 x135 = (readyB true zs17 == x133) →
 (x135 = true →
 List.length rows14 = List.length rows14 ∧
 SOk
 (arrF 16 f13)
 rows14 [] ∧
 ∀ (x138 : Bool), x138 = !readyB true rows14 → (x138 = true → r = V.bool true) ∧ (x138 = false → r = V.bool false)) ∧
 (x135 = false → r = V.bool false)) ∧
 (x130 = false → r = V.bool false)) ∧
 (x127 = false → r = V.bool false))) ∧
 (x123 = false → r = V.bool false)) ∧
 (x120 = false → r = V.bool false)) ∧
 (true = false → r = V.bool false)) ∧
 (true = false → r = V.bool false)) ∧
 (x115 = false → r = V.bool false)) ∧
 (putOk true rows14 x0 = false →
 Int.ofNat 4 = 4 ∧
 SOk
 (arrF 16 f13)
 zs17 [] ∧
 ∀ (q151 : Int × Int),
 q151 = srcK true zs17 (place b x0) →
 List.length rows14 = List.length rows14 ∧
 Int.ofNat 4 = 4 ∧
 SOk
 (arrF 16 f13)
 rows14 [] ∧
 ∀ (q153 : Int × Int),
 q153 = srcK true rows14 (place b x0) →
 ∀ (x155 : Bool),
 x155 = !true →
 (x155 = true →
 (true = true →
 (true = true →
 ∀ (x160 : Bool),
 x160 = !false →
 (x160 = true →
 ∀ (x163 : Bool),
 x163 = !false →
 (x163 = true →
 StructEq Try.prog 25 ∧
 (True →
 ∀ (x167 : Bool),
 x167 = (q151.1 == x6 && q151.2 == -1) →
 (x167 = true →
 ∀ (x170 : Bool),
 x170 = (q153.1 == 0) →
 (x170 = true →
 SOk
 (arrF 16 f13)
 zs17 [] ∧
 ∀ (x173 : Bool),
 x173 = (x0 == 1) →
 ∀ (x175 : Bool),
 x175 = (readyB true zs17 == x173) →
 (x175 = true →
 List.length rows14 = List.length rows14 ∧
 SOk
 (arrF 16 f13)
 rows14 [] ∧
 ∀ (x178 : Bool), x178 = !readyB true rows14 → (x178 = true → r = V.bool true) ∧ (x178 = false → r = V.bool false)) ∧
 (x175 = false → r = V.bool false)) ∧
 (x170 = false → r = V.bool false)) ∧
 (x167 = false → r = V.bool false))) ∧
 (x163 = false → r = V.bool false)) ∧
 (x160 = false → r = V.bool false)) ∧
 (true = false → r = V.bool false)) ∧
 (true = false → r = V.bool false)) ∧
 (x155 = false → r = V.bool false)))) ∧
 (putOk true zs17 (place b x0) = false →
 Int.ofNat 4 = 4 ∧
 SOk
 (arrF 16 f13)
 zs17 [] ∧
 (putOk true zs17 (place b x0) = true →
 ∀ (zs192 : List V),
 zs192 = putY zs17 (place b x0) x6 (-1) →
 List.length rows14 = List.length rows14 ∧
 Int.ofNat 4 = 4 ∧
 SOk
 (arrF 16 f13)
 rows14 [] ∧
 (putOk true rows14 x0 = true →
 ∀ (zs195 : List V),
 zs195 = putY rows14 x0 x6 (-1) →
 Int.ofNat 4 = 4 ∧
 SOk
 (arrF 16 f13)
 zs17 [] ∧
 ∀ (q197 : Int × Int),
 q197 = srcK true zs17 (place b x0) →
 List.length rows14 = List.length rows14 ∧
 Int.ofNat 4 = 4 ∧
 SOk
 (arrF 16 f13)
 rows14 [] ∧
 ∀ (q199 : Int × Int),
 q199 = srcK true rows14 (place b x0) →
 ∀ (x201 : Bool),
 x201 = !true →
 (x201 = true →
 (true = true →
 (false = true →
 ∀ (x206 : Bool),
 x206 = !true →
 (x206 = true →
 ∀ (x209 : Bool),
 x209 = !true →
 (x209 = true →
 StructEq Try.prog 25 ∧
 (True →
 ∀ (x213 : Bool),
 x213 = (q197.1 == x6 && q197.2 == -1) →
 (x213 = true →
 ∀ (x216 : Bool),
 x216 = (q199.1 == 0) →
 (x216 = true →
 SOk
 (arrF 16 f13)
 zs17 [] ∧
 ∀ (x219 : Bool),
 x219 = (x0 == 1) →
 ∀ (x221 : Bool),
 x221 = (readyB true zs17 == x219) →
 (x221 = true →
 List.length rows14 = List.length rows14 ∧
 SOk
 (arrF 16 f13)
 rows14 [] ∧
 ∀ (x224 : Bool), x224 = !readyB true rows14 → (x224 = true → r = V.bool true) ∧ (x224 = false → r = V.bool false)) ∧
 (x221 = false → r = V.bool false)) ∧
 (x216 = false → r = V.bool false)) ∧
 (x213 = false → r = V.bool false))) ∧
 (x209 = false → r = V.bool false)) ∧
 (x206 = false → r = V.bool false)) ∧
 (false = false → r = V.bool false)) ∧
 (true = false → r = V.bool false)) ∧
 (x201 = false → r = V.bool false)) ∧
 (putOk true rows14 x0 = false →
 Int.ofNat 4 = 4 ∧
 SOk
 (arrF 16 f13)
 zs17 [] ∧
 ∀ (q237 : Int × Int),
 q237 = srcK true zs17 (place b x0) →
 List.length rows14 = List.length rows14 ∧
 Int.ofNat 4 = 4 ∧
 SOk
 (arrF 16 f13)
 rows14 [] ∧
 ∀ (q239 : Int × Int),
 q239 = srcK true rows14 (place b x0) →
 ∀ (x241 : Bool),
 x241 = !true →
 (x241 = true →
 (true = true →
 (false = true →
 ∀ (x246 : Bool),
 x246 = !true →
 (x246 = true →
 ∀ (x249 : Bool),
 x249 = !false →
 (x249 = true →
 StructEq Try.prog 25 ∧
 (True →
 ∀ (x253 : Bool),
 x253 = (q237.1 == x6 && q237.2 == -1) →
 (x253 = true →
 ∀ (x256 : Bool),
 x256 = (q239.1 == 0) →
 (x256 = true →
 SOk
 (arrF 16 f13)
 zs17 [] ∧
 ∀ (x259 : Bool),
 x259 = (x0 == 1) →
 ∀ (x261 : Bool),
 x261 = (readyB true zs17 == x259) →
 (x261 = true →
 List.length rows14 = List.length rows14 ∧
 SOk
 (arrF 16 f13)
 rows14 [] ∧
 ∀ (x264 : Bool), x264 = !readyB true rows14 → (x264 = true → r = V.bool true) ∧ (x264 = false → r = V.bool false)) ∧
 (x261 = false → r = V.bool false)) ∧
 (x256 = false → r = V.bool false)) ∧
 (x253 = false → r = V.bool false))) ∧
 (x249 = false → r = V.bool false)) ∧
 (x246 = false → r = V.bool false)) ∧
 (false = false → r = V.bool false)) ∧
 (true = false → r = V.bool false)) ∧
 (x241 = false → r = V.bool false))) ∧
 (putOk true zs17 (place b x0) = false →
 List.length rows14 = List.length rows14 ∧
 Int.ofNat 4 = 4 ∧
 SOk
 (arrF 16 f13)
 rows14 [] ∧
 (putOk true rows14 x0 = true →
 ∀ (zs278 : List V),
 zs278 = putY rows14 x0 x6 (-1) →
 Int.ofNat 4 = 4 ∧
 SOk
 (arrF 16 f13)
 zs17 [] ∧
 ∀ (q280 : Int × Int),
 q280 = srcK true zs17 (place b x0) →
 List.length rows14 = List.length rows14 ∧
 Int.ofNat 4 = 4 ∧
 SOk
 (arrF 16 f13)
 rows14 [] ∧
 ∀ (q282 : Int × Int),
 q282 = srcK true rows14 (place b x0) →
 ∀ (x284 : Bool),
 x284 = !true →
 (x284 = true →
 (true = true →
 (false = true →
 ∀ (x289 : Bool),
 x289 = !false →
 (x289 = true →
 ∀ (x292 : Bool),
 x292 = !true →
 (x292 = true →
 StructEq Try.prog 25 ∧
 (True →
 ∀ (x296 : Bool),
 x296 = (q280.1 == x6 && q280.2 == -1) →
 (x296 = true →
 ∀ (x299 : Bool),
 x299 = (q282.1 == 0) →
 (x299 = true →
 SOk
 (arrF 16 f13)
 zs17 [] ∧
 ∀ (x302 : Bool),
 x302 = (x0 == 1) →
 ∀ (x304 : Bool),
 x304 = (readyB true zs17 == x302) →
 (x304 = true →
 List.length rows14 = List.length rows14 ∧
 SOk
 (arrF 16 f13)
 rows14 [] ∧
 ∀ (x307 : Bool), x307 = !readyB true rows14 → (x307 = true → r = V.bool true) ∧ (x307 = false → r = V.bool false)) ∧
 (x304 = false → r = V.bool false)) ∧
 (x299 = false → r = V.bool false)) ∧
 (x296 = false → r = V.bool false))) ∧
 (x292 = false → r = V.bool false)) ∧
 (x289 = false → r = V.bool false)) ∧
 (false = false → r = V.bool false)) ∧
 (true = false → r = V.bool false)) ∧
 (x284 = false → r = V.bool false)) ∧
 (putOk true rows14 x0 = false →
 Int.ofNat 4 = 4 ∧
 SOk
 (arrF 16 f13)
 zs17 [] ∧
 ∀ (q320 : Int × Int),
 q320 = srcK true zs17 (place b x0) →
 List.length rows14 = List.length rows14 ∧
 Int.ofNat 4 = 4 ∧
 SOk
 (arrF 16 f13)
 rows14 [] ∧
 ∀ (q322 : Int × Int),
 q322 = srcK true rows14 (place b x0) →
 ∀ (x324 : Bool),
 x324 = !true →
 (x324 = true →
 (true = true →
 (false = true →
 ∀ (x329 : Bool),
 x329 = !false →
 (x329 = true →
 ∀ (x332 : Bool),
 x332 = !false →
 (x332 = true →
 StructEq Try.prog 25 ∧
 (True →
 ∀ (x336 : Bool),
 x336 = (q320.1 == x6 && q320.2 == -1) →
 (x336 = true →
 ∀ (x339 : Bool),
 x339 = (q322.1 == 0) →
 (x339 = true →
 SOk
 (arrF 16 f13)
 zs17 [] ∧
 ∀ (x342 : Bool),
 x342 = (x0 == 1) →
 ∀ (x344 : Bool),
 x344 = (readyB true zs17 == x342) →
 (x344 = true →
 List.length rows14 = List.length rows14 ∧
 SOk
 (arrF 16 f13)
 rows14 [] ∧
 ∀ (x347 : Bool), x347 = !readyB true rows14 → (x347 = true → r = V.bool true) ∧ (x347 = false → r = V.bool false)) ∧
 (x344 = false → r = V.bool false)) ∧
 (x339 = false → r = V.bool false)) ∧
 (x336 = false → r = V.bool false))) ∧
 (x332 = false → r = V.bool false)) ∧
 (x329 = false → r = V.bool false)) ∧
 (false = false → r = V.bool false)) ∧
 (true = false → r = V.bool false)) ∧
 (x324 = false → r = V.bool false))))) ∧
 (putOk true rows14 (place b x0) = false →
 Int.ofNat 4 = 4 ∧
 SOk
 (arrF 16 f13)
 rows14 [] ∧
 (putOk true rows14 (place b x0) = true →
 ∀ (zs361 : List V),
 zs361 = putY rows14 (place b x0) 256 7 →
 Int.ofNat 4 = 4 ∧
 SOk
 (arrF 16 f13)
 zs361 [] ∧
 (putOk true zs361 (place b x0) = true →
 ∀ (zs364 : List V),
 zs364 = putY zs361 (place b x0) x6 (-1) →
 List.length rows14 = List.length rows14 ∧
 Int.ofNat 4 = 4 ∧
 SOk
 (arrF 16 f13)
 rows14 [] ∧
 (putOk true rows14 x0 = true →
 ∀ (zs367 : List V),
 zs367 = putY rows14 x0 x6 (-1) →
 Int.ofNat 4 = 4 ∧
 SOk
 (arrF 16 f13)
 rows14 [] ∧
 ∀ (q369 : Int × Int),
 q369 = srcK true rows14 (place b x0) →
 List.length rows14 = List.length rows14 ∧
 Int.ofNat 4 = 4 ∧
 SOk
 (arrF 16 f13)
 rows14 [] ∧
 ∀ (q371 : Int × Int),
 q371 = srcK true rows14 (place b x0) →
 ∀ (x373 : Bool),
 x373 = !true →
 (x373 = true →
 (false = true →
 (true = true →
 ∀ (x378 : Bool),
 x378 = !true →
 (x378 = true →
 ∀ (x381 : Bool),
 x381 = !true →
 (x381 = true →
 StructEq Try.prog 25 ∧
 (True →
 ∀ (x385 : Bool),
 x385 = (q369.1 == x6 && q369.2 == -1) →
 (x385 = true →
 ∀ (x388 : Bool),
 x388 = (q371.1 == 0) →
 (x388 = true →
 SOk
 (arrF 16 f13)
 rows14 [] ∧
 ∀ (x391 : Bool),
 x391 = (x0 == 1) →
 ∀ (x393 : Bool),
 x393 = (readyB true rows14 == x391) →
 (x393 = true →
 List.length rows14 = List.length rows14 ∧
 SOk
 (arrF 16 f13)
 rows14 [] ∧
 ∀ (x396 : Bool), x396 = !readyB true rows14 → (x396 = true → r = V.bool true) ∧ (x396 = false → r = V.bool false)) ∧
 (x393 = false → r = V.bool false)) ∧
 (x388 = false → r = V.bool false)) ∧
 (x385 = false → r = V.bool false))) ∧
 (x381 = false → r = V.bool false)) ∧
 (x378 = false → r = V.bool false)) ∧
 (true = false → r = V.bool false)) ∧
 (false = false → r = V.bool false)) ∧
 (x373 = false → r = V.bool false)) ∧
 (putOk true rows14 x0 = false →
 Int.ofNat 4 = 4 ∧
 SOk
 (arrF 16 f13)
 rows14 [] ∧
 ∀ (q409 : Int × Int),
 q409 = srcK true rows14 (place b x0) →
 List.length rows14 = List.length rows14 ∧
 Int.ofNat 4 = 4 ∧
 SOk
 (arrF 16 f13)
 rows14 [] ∧
 ∀ (q411 : Int × Int),
 q411 = srcK true rows14 (place b x0) →
 ∀ (x413 : Bool),
 x413 = !true →
 (x413 = true →
 (false = true →
 (true = true →
 ∀ (x418 : Bool),
 x418 = !true →
 (x418 = true →
 ∀ (x421 : Bool),
 x421 = !false →
 (x421 = true →
 StructEq Try.prog 25 ∧
 (True →
 ∀ (x425 : Bool),
 x425 = (q409.1 == x6 && q409.2 == -1) →
 (x425 = true →
 ∀ (x428 : Bool),
 x428 = (q411.1 == 0) →
 (x428 = true →
 SOk
 (arrF 16 f13)
 rows14 [] ∧
 ∀ (x431 : Bool),
 x431 = (x0 == 1) →
 ∀ (x433 : Bool),
 x433 = (readyB true rows14 == x431) →
 (x433 = true →
 List.length rows14 = List.length rows14 ∧
 SOk
 (arrF 16 f13)
 rows14 [] ∧
 ∀ (x436 : Bool), x436 = !readyB true rows14 → (x436 = true → r = V.bool true) ∧ (x436 = false → r = V.bool false)) ∧
 (x433 = false → r = V.bool false)) ∧
 (x428 = false → r = V.bool false)) ∧
 (x425 = false → r = V.bool false))) ∧
 (x421 = false → r = V.bool false)) ∧
 (x418 = false → r = V.bool false)) ∧
 (true = false → r = V.bool false)) ∧
 (false = false → r = V.bool false)) ∧
 (x413 = false → r = V.bool false))) ∧
 (putOk true zs361 (place b x0) = false →
 List.length rows14 = List.length rows14 ∧
 Int.ofNat 4 = 4 ∧
 SOk
 (arrF 16 f13)
 rows14 [] ∧
 (putOk true rows14 x0 = true →
 ∀ (zs450 : List V),
 zs450 = putY rows14 x0 x6 (-1) →
 Int.ofNat 4 = 4 ∧
 SOk
 (arrF 16 f13)
 rows14 [] ∧
 ∀ (q452 : Int × Int),
 q452 = srcK true rows14 (place b x0) →
 List.length rows14 = List.length rows14 ∧
 Int.ofNat 4 = 4 ∧
 SOk
 (arrF 16 f13)
 rows14 [] ∧
 ∀ (q454 : Int × Int),
 q454 = srcK true rows14 (place b x0) →
 ∀ (x456 : Bool),
 x456 = !true →
 (x456 = true →
 (false = true →
 (true = true →
 ∀ (x461 : Bool),
 x461 = !false →
 (x461 = true →
 ∀ (x464 : Bool),
 x464 = !true →
 (x464 = true →
 StructEq Try.prog 25 ∧
 (True →
 ∀ (x468 : Bool),
 x468 = (q452.1 == x6 && q452.2 == -1) →
 (x468 = true →
 ∀ (x471 : Bool),
 x471 = (q454.1 == 0) →
 (x471 = true →
 SOk
 (arrF 16 f13)
 rows14 [] ∧
 ∀ (x474 : Bool),
 x474 = (x0 == 1) →
 ∀ (x476 : Bool),
 x476 = (readyB true rows14 == x474) →
 (x476 = true →
 List.length rows14 = List.length rows14 ∧
 SOk
 (arrF 16 f13)
 rows14 [] ∧
 ∀ (x479 : Bool), x479 = !readyB true rows14 → (x479 = true → r = V.bool true) ∧ (x479 = false → r = V.bool false)) ∧
 (x476 = false → r = V.bool false)) ∧
 (x471 = false → r = V.bool false)) ∧
 (x468 = false → r = V.bool false))) ∧
 (x464 = false → r = V.bool false)) ∧
 (x461 = false → r = V.bool false)) ∧
 (true = false → r = V.bool false)) ∧
 (false = false → r = V.bool false)) ∧
 (x456 = false → r = V.bool false)) ∧
 (putOk true rows14 x0 = false →
 Int.ofNat 4 = 4 ∧
 SOk
 (arrF 16 f13)
 rows14 [] ∧
 ∀ (q492 : Int × Int),
 q492 = srcK true rows14 (place b x0) →
 List.length rows14 = List.length rows14 ∧
 Int.ofNat 4 = 4 ∧
 SOk
 (arrF 16 f13)
 rows14 [] ∧
 ∀ (q494 : Int × Int),
 q494 = srcK true rows14 (place b x0) →
 ∀ (x496 : Bool),
 x496 = !true →
 (x496 = true →
 (false = true →
 (true = true →
 ∀ (x501 : Bool),
 x501 = !false →
 (x501 = true →
 ∀ (x504 : Bool),
 x504 = !false →
 (x504 = true →
 StructEq Try.prog 25 ∧
 (True →
 ∀ (x508 : Bool),
 x508 = (q492.1 == x6 && q492.2 == -1) →
 (x508 = true →
 ∀ (x511 : Bool),
 x511 = (q494.1 == 0) →
 (x511 = true →
 SOk
 (arrF 16 f13)
 rows14 [] ∧
 ∀ (x514 : Bool),
 x514 = (x0 == 1) →
 ∀ (x516 : Bool),
 x516 = (readyB true rows14 == x514) →
 (x516 = true →
 List.length rows14 = List.length rows14 ∧
 SOk
 (arrF 16 f13)
 rows14 [] ∧
 ∀ (x519 : Bool), x519 = !readyB true rows14 → (x519 = true → r = V.bool true) ∧ (x519 = false → r = V.bool false)) ∧
 (x516 = false → r = V.bool false)) ∧
 (x511 = false → r = V.bool false)) ∧
 (x508 = false → r = V.bool false))) ∧
 (x504 = false → r = V.bool false)) ∧
 (x501 = false → r = V.bool false)) ∧
 (true = false → r = V.bool false)) ∧
 (false = false → r = V.bool false)) ∧
 (x496 = false → r = V.bool false)))) ∧
 (putOk true rows14 (place b x0) = false →
 Int.ofNat 4 = 4 ∧
 SOk
 (arrF 16 f13)
 rows14 [] ∧
 (putOk true rows14 (place b x0) = true →
 ∀ (zs533 : List V),
 zs533 = putY rows14 (place b x0) x6 (-1) →
 List.length rows14 = List.length rows14 ∧
 Int.ofNat 4 = 4 ∧
 SOk
 (arrF 16 f13)
 rows14 [] ∧
 (putOk true rows14 x0 = true →
 ∀ (zs536 : List V),
 zs536 = putY rows14 x0 x6 (-1) →
 Int.ofNat 4 = 4 ∧
 SOk
 (arrF 16 f13)
 rows14 [] ∧
 ∀ (q538 : Int × Int),
 q538 = srcK true rows14 (place b x0) →
 List.length rows14 = List.length rows14 ∧
 Int.ofNat 4 = 4 ∧
 SOk
 (arrF 16 f13)
 rows14 [] ∧
 ∀ (q540 : Int × Int),
 q540 = srcK true rows14 (place b x0) →
 ∀ (x542 : Bool),
 x542 = !true →
 (x542 = true →
 (false = true →
 (false = true →
 ∀ (x547 : Bool),
 x547 = !true →
 (x547 = true →
 ∀ (x550 : Bool),
 x550 = !true →
 (x550 = true →
 StructEq Try.prog 25 ∧
 (True →
 ∀ (x554 : Bool),
 x554 = (q538.1 == x6 && q538.2 == -1) →
 (x554 = true →
 ∀ (x557 : Bool),
 x557 = (q540.1 == 0) →
 (x557 = true →
 SOk
 (arrF 16 f13)
 rows14 [] ∧
 ∀ (x560 : Bool),
 x560 = (x0 == 1) →
 ∀ (x562 : Bool),
 x562 = (readyB true rows14 == x560) →
 (x562 = true →
 List.length rows14 = List.length rows14 ∧
 SOk
 (arrF 16 f13)
 rows14 [] ∧
 ∀ (x565 : Bool), x565 = !readyB true rows14 → (x565 = true → r = V.bool true) ∧ (x565 = false → r = V.bool false)) ∧
 (x562 = false → r = V.bool false)) ∧
 (x557 = false → r = V.bool false)) ∧
 (x554 = false → r = V.bool false))) ∧
 (x550 = false → r = V.bool false)) ∧
 (x547 = false → r = V.bool false)) ∧
 (false = false → r = V.bool false)) ∧
 (false = false → r = V.bool false)) ∧
 (x542 = false → r = V.bool false)) ∧
 (putOk true rows14 x0 = false →
 Int.ofNat 4 = 4 ∧
 SOk
 (arrF 16 f13)
 rows14 [] ∧
 ∀ (q578 : Int × Int),
 q578 = srcK true rows14 (place b x0) →
 List.length rows14 = List.length rows14 ∧
 Int.ofNat 4 = 4 ∧
 SOk
 (arrF 16 f13)
 rows14 [] ∧
 ∀ (q580 : Int × Int),
 q580 = srcK true rows14 (place b x0) →
 ∀ (x582 : Bool),
 x582 = !true →
 (x582 = true →
 (false = true →
 (false = true →
 ∀ (x587 : Bool),
 x587 = !true →
 (x587 = true →
 ∀ (x590 : Bool),
 x590 = !false →
 (x590 = true →
 StructEq Try.prog 25 ∧
 (True →
 ∀ (x594 : Bool),
 x594 = (q578.1 == x6 && q578.2 == -1) →
 (x594 = true →
 ∀ (x597 : Bool),
 x597 = (q580.1 == 0) →
 (x597 = true →
 SOk
 (arrF 16 f13)
 rows14 [] ∧
 ∀ (x600 : Bool),
 x600 = (x0 == 1) →
 ∀ (x602 : Bool),
 x602 = (readyB true rows14 == x600) →
 (x602 = true →
 List.length rows14 = List.length rows14 ∧
 SOk
 (arrF 16 f13)
 rows14 [] ∧
 ∀ (x605 : Bool), x605 = !readyB true rows14 → (x605 = true → r = V.bool true) ∧ (x605 = false → r = V.bool false)) ∧
 (x602 = false → r = V.bool false)) ∧
 (x597 = false → r = V.bool false)) ∧
 (x594 = false → r = V.bool false))) ∧
 (x590 = false → r = V.bool false)) ∧
 (x587 = false → r = V.bool false)) ∧
 (false = false → r = V.bool false)) ∧
 (false = false → r = V.bool false)) ∧
 (x582 = false → r = V.bool false))) ∧
 (putOk true rows14 (place b x0) = false →
 List.length rows14 = List.length rows14 ∧
 Int.ofNat 4 = 4 ∧
 SOk
 (arrF 16 f13)
 rows14 [] ∧
 (putOk true rows14 x0 = true →
 ∀ (zs619 : List V),
 zs619 = putY rows14 x0 x6 (-1) →
 Int.ofNat 4 = 4 ∧
 SOk
 (arrF 16 f13)
 rows14 [] ∧
 ∀ (q621 : Int × Int),
 q621 = srcK true rows14 (place b x0) →
 List.length rows14 = List.length rows14 ∧
 Int.ofNat 4 = 4 ∧
 SOk
 (arrF 16 f13)
 rows14 [] ∧
 ∀ (q623 : Int × Int),
 q623 = srcK true rows14 (place b x0) →
 ∀ (x625 : Bool),
 x625 = !true →
 (x625 = true →
 (false = true →
 (false = true →
 ∀ (x630 : Bool),
 x630 = !false →
 (x630 = true →
 ∀ (x633 : Bool),
 x633 = !true →
 (x633 = true →
 StructEq Try.prog 25 ∧
 (True →
 ∀ (x637 : Bool),
 x637 = (q621.1 == x6 && q621.2 == -1) →
 (x637 = true →
 ∀ (x640 : Bool),
 x640 = (q623.1 == 0) →
 (x640 = true →
 SOk
 (arrF 16 f13)
 rows14 [] ∧
 ∀ (x643 : Bool),
 x643 = (x0 == 1) →
 ∀ (x645 : Bool),
 x645 = (readyB true rows14 == x643) →
 (x645 = true →
 List.length rows14 = List.length rows14 ∧
 SOk
 (arrF 16 f13)
 rows14 [] ∧
 ∀ (x648 : Bool), x648 = !readyB true rows14 → (x648 = true → r = V.bool true) ∧ (x648 = false → r = V.bool false)) ∧
 (x645 = false → r = V.bool false)) ∧
 (x640 = false → r = V.bool false)) ∧
 (x637 = false → r = V.bool false))) ∧
 (x633 = false → r = V.bool false)) ∧
 (x630 = false → r = V.bool false)) ∧
 (false = false → r = V.bool false)) ∧
 (false = false → r = V.bool false)) ∧
 (x625 = false → r = V.bool false)) ∧
 (putOk true rows14 x0 = false →
 Int.ofNat 4 = 4 ∧
 SOk
 (arrF 16 f13)
 rows14 [] ∧
 ∀ (q661 : Int × Int),
 q661 = srcK true rows14 (place b x0) →
 List.length rows14 = List.length rows14 ∧
 Int.ofNat 4 = 4 ∧
 SOk
 (arrF 16 f13)
 rows14 [] ∧
 ∀ (q663 : Int × Int),
 q663 = srcK true rows14 (place b x0) →
 ∀ (x665 : Bool),
 x665 = !true →
 (x665 = true →
 (false = true →
 (false = true →
 ∀ (x670 : Bool),
 x670 = !false →
 (x670 = true →
 ∀ (x673 : Bool),
 x673 = !false →
 (x673 = true →
 StructEq Try.prog 25 ∧
 (True →
 ∀ (x677 : Bool),
 x677 = (q661.1 == x6 && q661.2 == -1) →
 (x677 = true →
 ∀ (x680 : Bool),
 x680 = (q663.1 == 0) →
 (x680 = true →
 SOk
 (arrF 16 f13)
 rows14 [] ∧
 ∀ (x683 : Bool),
 x683 = (x0 == 1) →
 ∀ (x685 : Bool),
 x685 = (readyB true rows14 == x683) →
 (x685 = true →
 List.length rows14 = List.length rows14 ∧
 SOk
 (arrF 16 f13)
 rows14 [] ∧
 ∀ (x688 : Bool), x688 = !readyB true rows14 → (x688 = true → r = V.bool true) ∧ (x688 = false → r = V.bool false)) ∧
 (x685 = false → r = V.bool false)) ∧
 (x680 = false → r = V.bool false)) ∧
 (x677 = false → r = V.bool false))) ∧
 (x673 = false → r = V.bool false)) ∧
 (x670 = false → r = V.bool false)) ∧
 (false = false → r = V.bool false)) ∧
 (false = false → r = V.bool false)) ∧
 (x665 = false → r = V.bool false)))))) ∧
 (putOk false [] 0 = false →
 Int.ofNat 0 = 0 ∧
 0 ≤ x0 ∧
 x0 ≤ 100 ∧
 ∃ f701 : Nat → Int × Int,
 (arrF 16 f8) =
 (arrF 16 f701) ∧
 [V.bool true, V.nils, V.int IntKind.i64 0, V.nils] = [V.bool true, V.nils, V.int IntKind.i64 0, V.nils] ∧
 ∀ (rows702 : List V),
 rows702 = List.replicate (Int.toNat x0) (V.agg [V.int IntKind.i64 0, V.int IntKind.i64 (-1)]) →
 List.length rows702 = List.length rows702 ∧
 Int.ofNat 4 = 4 ∧
 SOk
 (arrF 16 f701)
 rows702 [] ∧
 (putOk true rows702 (place b x0) = true →
 ∀ (zs705 : List V),
 zs705 = putY rows702 (place b x0) x6 (-1) →
 Int.ofNat 4 = 4 ∧
 SOk
 (arrF 16 f701)
 zs705 [] ∧
 (putOk true zs705 (place b x0) = true →
 ∀ (zs708 : List V),
 zs708 = putY zs705 (place b x0) 256 7 →
 Int.ofNat 4 = 4 ∧
 SOk
 (arrF 16 f701)
 zs708 [] ∧
 (putOk true zs708 (place b x0) = true →
 ∀ (zs711 : List V),
 zs711 = putY zs708 (place b x0) x6 (-1) →
 List.length rows702 = List.length rows702 ∧
 Int.ofNat 4 = 4 ∧
 SOk
 (arrF 16 f701)
 rows702 [] ∧
 (putOk true rows702 x0 = true →
 ∀ (zs714 : List V),
 zs714 = putY rows702 x0 x6 (-1) →
 Int.ofNat 4 = 4 ∧
 SOk
 (arrF 16 f701)
 zs705 [] ∧
 ∀ (q716 : Int × Int),
 q716 = srcK true zs705 (place b x0) →
 List.length rows702 = List.length rows702 ∧
 Int.ofNat 4 = 4 ∧
 SOk
 (arrF 16 f701)
 rows702 [] ∧
 ∀ (q718 : Int × Int),
 q718 = srcK true rows702 (place b x0) →
 ∀ (x720 : Bool),
 x720 = !false →
 (x720 = true →
 (true = true →
 (true = true →
 ∀ (x725 : Bool),
 x725 = !true →
 (x725 = true →
 ∀ (x728 : Bool),
 x728 = !true →
 (x728 = true →
 StructEq Try.prog 25 ∧
 (True →
 ∀ (x732 : Bool),
 x732 = (q716.1 == x6 && q716.2 == -1) →
 (x732 = true →
 ∀ (x735 : Bool),
 x735 = (q718.1 == 0) →
 (x735 = true →
 SOk
 (arrF 16 f701)
 zs705 [] ∧
 ∀ (x738 : Bool),
 x738 = (x0 == 1) →
 ∀ (x740 : Bool),
 x740 = (readyB true zs705 == x738) →
 (x740 = true →
 List.length rows702 = List.length rows702 ∧
 SOk
 (arrF 16 f701)
 rows702 [] ∧
 ∀ (x743 : Bool), x743 = !readyB true rows702 → (x743 = true → r = V.bool true) ∧ (x743 = false → r = V.bool false)) ∧
 (x740 = false → r = V.bool false)) ∧
 (x735 = false → r = V.bool false)) ∧
 (x732 = false → r = V.bool false))) ∧
 (x728 = false → r = V.bool false)) ∧
 (x725 = false → r = V.bool false)) ∧
 (true = false → r = V.bool false)) ∧
 (true = false → r = V.bool false)) ∧
 (x720 = false → r = V.bool false)) ∧
 (putOk true rows702 x0 = false →
 Int.ofNat 4 = 4 ∧
 SOk
 (arrF 16 f701)
 zs705 [] ∧
 ∀ (q756 : Int × Int),
 q756 = srcK true zs705 (place b x0) →
 List.length rows702 = List.length rows702 ∧
 Int.ofNat 4 = 4 ∧
 SOk
 (arrF 16 f701)
 rows702 [] ∧
 ∀ (q758 : Int × Int),
 q758 = srcK true rows702 (place b x0) →
 ∀ (x760 : Bool),
 x760 = !false →
 (x760 = true →
 (true = true →
 (true = true →
 ∀ (x765 : Bool),
 x765 = !true →
 (x765 = true →
 ∀ (x768 : Bool),
 x768 = !false →
 (x768 = true →
 StructEq Try.prog 25 ∧
 (True →
 ∀ (x772 : Bool),
 x772 = (q756.1 == x6 && q756.2 == -1) →
 (x772 = true →
 ∀ (x775 : Bool),
 x775 = (q758.1 == 0) →
 (x775 = true →
 SOk
 (arrF 16 f701)
 zs705 [] ∧
 ∀ (x778 : Bool),
 x778 = (x0 == 1) →
 ∀ (x780 : Bool),
 x780 = (readyB true zs705 == x778) →
 (x780 = true →
 List.length rows702 = List.length rows702 ∧
 SOk
 (arrF 16 f701)
 rows702 [] ∧
 ∀ (x783 : Bool), x783 = !readyB true rows702 → (x783 = true → r = V.bool true) ∧ (x783 = false → r = V.bool false)) ∧
 (x780 = false → r = V.bool false)) ∧
 (x775 = false → r = V.bool false)) ∧
 (x772 = false → r = V.bool false))) ∧
 (x768 = false → r = V.bool false)) ∧
 (x765 = false → r = V.bool false)) ∧
 (true = false → r = V.bool false)) ∧
 (true = false → r = V.bool false)) ∧
 (x760 = false → r = V.bool false))) ∧
 (putOk true zs708 (place b x0) = false →
 List.length rows702 = List.length rows702 ∧
 Int.ofNat 4 = 4 ∧
 SOk
 (arrF 16 f701)
 rows702 [] ∧
 (putOk true rows702 x0 = true →
 ∀ (zs797 : List V),
 zs797 = putY rows702 x0 x6 (-1) →
 Int.ofNat 4 = 4 ∧
 SOk
 (arrF 16 f701)
 zs705 [] ∧
 ∀ (q799 : Int × Int),
 q799 = srcK true zs705 (place b x0) →
 List.length rows702 = List.length rows702 ∧
 Int.ofNat 4 = 4 ∧
 SOk
 (arrF 16 f701)
 rows702 [] ∧
 ∀ (q801 : Int × Int),
 q801 = srcK true rows702 (place b x0) →
 ∀ (x803 : Bool),
 x803 = !false →
 (x803 = true →
 (true = true →
 (true = true →
 ∀ (x808 : Bool),
 x808 = !false →
 (x808 = true →
 ∀ (x811 : Bool),
 x811 = !true →
 (x811 = true →
 StructEq Try.prog 25 ∧
 (True →
 ∀ (x815 : Bool),
 x815 = (q799.1 == x6 && q799.2 == -1) →
 (x815 = true →
 ∀ (x818 : Bool),
 x818 = (q801.1 == 0) →
 (x818 = true →
 SOk
 (arrF 16 f701)
 zs705 [] ∧
 ∀ (x821 : Bool),
 x821 = (x0 == 1) →
 ∀ (x823 : Bool),
 x823 = (readyB true zs705 == x821) →
 (x823 = true →
 List.length rows702 = List.length rows702 ∧
 SOk
 (arrF 16 f701)
 rows702 [] ∧
 ∀ (x826 : Bool), x826 = !readyB true rows702 → (x826 = true → r = V.bool true) ∧ (x826 = false → r = V.bool false)) ∧
 (x823 = false → r = V.bool false)) ∧
 (x818 = false → r = V.bool false)) ∧
 (x815 = false → r = V.bool false))) ∧
 (x811 = false → r = V.bool false)) ∧
 (x808 = false → r = V.bool false)) ∧
 (true = false → r = V.bool false)) ∧
 (true = false → r = V.bool false)) ∧
 (x803 = false → r = V.bool false)) ∧
 (putOk true rows702 x0 = false →
 Int.ofNat 4 = 4 ∧
 SOk
 (arrF 16 f701)
 zs705 [] ∧
 ∀ (q839 : Int × Int),
 q839 = srcK true zs705 (place b x0) →
 List.length rows702 = List.length rows702 ∧
 Int.ofNat 4 = 4 ∧
 SOk
 (arrF 16 f701)
 rows702 [] ∧
 ∀ (q841 : Int × Int),
 q841 = srcK true rows702 (place b x0) →
 ∀ (x843 : Bool),
 x843 = !false →
 (x843 = true →
 (true = true →
 (true = true →
 ∀ (x848 : Bool),
 x848 = !false →
 (x848 = true →
 ∀ (x851 : Bool),
 x851 = !false →
 (x851 = true →
 StructEq Try.prog 25 ∧
 (True →
 ∀ (x855 : Bool),
 x855 = (q839.1 == x6 && q839.2 == -1) →
 (x855 = true →
 ∀ (x858 : Bool),
 x858 = (q841.1 == 0) →
 (x858 = true →
 SOk
 (arrF 16 f701)
 zs705 [] ∧
 ∀ (x861 : Bool),
 x861 = (x0 == 1) →
 ∀ (x863 : Bool),
 x863 = (readyB true zs705 == x861) →
 (x863 = true →
 List.length rows702 = List.length rows702 ∧
 SOk
 (arrF 16 f701)
 rows702 [] ∧
 ∀ (x866 : Bool), x866 = !readyB true rows702 → (x866 = true → r = V.bool true) ∧ (x866 = false → r = V.bool false)) ∧
 (x863 = false → r = V.bool false)) ∧
 (x858 = false → r = V.bool false)) ∧
 (x855 = false → r = V.bool false))) ∧
 (x851 = false → r = V.bool false)) ∧
 (x848 = false → r = V.bool false)) ∧
 (true = false → r = V.bool false)) ∧
 (true = false → r = V.bool false)) ∧
 (x843 = false → r = V.bool false)))) ∧
 (putOk true zs705 (place b x0) = false →
 Int.ofNat 4 = 4 ∧
 SOk
 (arrF 16 f701)
 zs705 [] ∧
 (putOk true zs705 (place b x0) = true →
 ∀ (zs880 : List V),
 zs880 = putY zs705 (place b x0) x6 (-1) →
 List.length rows702 = List.length rows702 ∧
 Int.ofNat 4 = 4 ∧
 SOk
 (arrF 16 f701)
 rows702 [] ∧
 (putOk true rows702 x0 = true →
 ∀ (zs883 : List V),
 zs883 = putY rows702 x0 x6 (-1) →
 Int.ofNat 4 = 4 ∧
 SOk
 (arrF 16 f701)
 zs705 [] ∧
 ∀ (q885 : Int × Int),
 q885 = srcK true zs705 (place b x0) →
 List.length rows702 = List.length rows702 ∧
 Int.ofNat 4 = 4 ∧
 SOk
 (arrF 16 f701)
 rows702 [] ∧
 ∀ (q887 : Int × Int),
 q887 = srcK true rows702 (place b x0) →
 ∀ (x889 : Bool),
 x889 = !false →
 (x889 = true →
 (true = true →
 (false = true →
 ∀ (x894 : Bool),
 x894 = !true →
 (x894 = true →
 ∀ (x897 : Bool),
 x897 = !true →
 (x897 = true →
 StructEq Try.prog 25 ∧
 (True →
 ∀ (x901 : Bool),
 x901 = (q885.1 == x6 && q885.2 == -1) →
 (x901 = true →
 ∀ (x904 : Bool),
 x904 = (q887.1 == 0) →
 (x904 = true →
 SOk
 (arrF 16 f701)
 zs705 [] ∧
 ∀ (x907 : Bool),
 x907 = (x0 == 1) →
 ∀ (x909 : Bool),
 x909 = (readyB true zs705 == x907) →
 (x909 = true →
 List.length rows702 = List.length rows702 ∧
 SOk
 (arrF 16 f701)
 rows702 [] ∧
 ∀ (x912 : Bool), x912 = !readyB true rows702 → (x912 = true → r = V.bool true) ∧ (x912 = false → r = V.bool false)) ∧
 (x909 = false → r = V.bool false)) ∧
 (x904 = false → r = V.bool false)) ∧
 (x901 = false → r = V.bool false))) ∧
 (x897 = false → r = V.bool false)) ∧
 (x894 = false → r = V.bool false)) ∧
 (false = false → r = V.bool false)) ∧
 (true = false → r = V.bool false)) ∧
 (x889 = false → r = V.bool false)) ∧
 (putOk true rows702 x0 = false →
 Int.ofNat 4 = 4 ∧
 SOk
 (arrF 16 f701)
 zs705 [] ∧
 ∀ (q925 : Int × Int),
 q925 = srcK true zs705 (place b x0) →
 List.length rows702 = List.length rows702 ∧
 Int.ofNat 4 = 4 ∧
 SOk
 (arrF 16 f701)
 rows702 [] ∧
 ∀ (q927 : Int × Int),
 q927 = srcK true rows702 (place b x0) →
 ∀ (x929 : Bool),
 x929 = !false →
 (x929 = true →
 (true = true →
 (false = true →
 ∀ (x934 : Bool),
 x934 = !true →
 (x934 = true →
 ∀ (x937 : Bool),
 x937 = !false →
 (x937 = true →
 StructEq Try.prog 25 ∧
 (True →
 ∀ (x941 : Bool),
 x941 = (q925.1 == x6 && q925.2 == -1) →
 (x941 = true →
 ∀ (x944 : Bool),
 x944 = (q927.1 == 0) →
 (x944 = true →
 SOk
 (arrF 16 f701)
 zs705 [] ∧
 ∀ (x947 : Bool),
 x947 = (x0 == 1) →
 ∀ (x949 : Bool),
 x949 = (readyB true zs705 == x947) →
 (x949 = true →
 List.length rows702 = List.length rows702 ∧
 SOk
 (arrF 16 f701)
 rows702 [] ∧
 ∀ (x952 : Bool), x952 = !readyB true rows702 → (x952 = true → r = V.bool true) ∧ (x952 = false → r = V.bool false)) ∧
 (x949 = false → r = V.bool false)) ∧
 (x944 = false → r = V.bool false)) ∧
 (x941 = false → r = V.bool false))) ∧
 (x937 = false → r = V.bool false)) ∧
 (x934 = false → r = V.bool false)) ∧
 (false = false → r = V.bool false)) ∧
 (true = false → r = V.bool false)) ∧
 (x929 = false → r = V.bool false))) ∧
 (putOk true zs705 (place b x0) = false →
 List.length rows702 = List.length rows702 ∧
 Int.ofNat 4 = 4 ∧
 SOk
 (arrF 16 f701)
 rows702 [] ∧
 (putOk true rows702 x0 = true →
 ∀ (zs966 : List V),
 zs966 = putY rows702 x0 x6 (-1) →
 Int.ofNat 4 = 4 ∧
 SOk
 (arrF 16 f701)
 zs705 [] ∧
 ∀ (q968 : Int × Int),
 q968 = srcK true zs705 (place b x0) →
 List.length rows702 = List.length rows702 ∧
 Int.ofNat 4 = 4 ∧
 SOk
 (arrF 16 f701)
 rows702 [] ∧
 ∀ (q970 : Int × Int),
 q970 = srcK true rows702 (place b x0) →
 ∀ (x972 : Bool),
 x972 = !false →
 (x972 = true →
 (true = true →
 (false = true →
 ∀ (x977 : Bool),
 x977 = !false →
 (x977 = true →
 ∀ (x980 : Bool),
 x980 = !true →
 (x980 = true →
 StructEq Try.prog 25 ∧
 (True →
 ∀ (x984 : Bool),
 x984 = (q968.1 == x6 && q968.2 == -1) →
 (x984 = true →
 ∀ (x987 : Bool),
 x987 = (q970.1 == 0) →
 (x987 = true →
 SOk
 (arrF 16 f701)
 zs705 [] ∧
 ∀ (x990 : Bool),
 x990 = (x0 == 1) →
 ∀ (x992 : Bool),
 x992 = (readyB true zs705 == x990) →
 (x992 = true →
 List.length rows702 = List.length rows702 ∧
 SOk
 (arrF 16 f701)
 rows702 [] ∧
 ∀ (x995 : Bool), x995 = !readyB true rows702 → (x995 = true → r = V.bool true) ∧ (x995 = false → r = V.bool false)) ∧
 (x992 = false → r = V.bool false)) ∧
 (x987 = false → r = V.bool false)) ∧
 (x984 = false → r = V.bool false))) ∧
 (x980 = false → r = V.bool false)) ∧
 (x977 = false → r = V.bool false)) ∧
 (false = false → r = V.bool false)) ∧
 (true = false → r = V.bool false)) ∧
 (x972 = false → r = V.bool false)) ∧
 (putOk true rows702 x0 = false →
 Int.ofNat 4 = 4 ∧
 SOk
 (arrF 16 f701)
 zs705 [] ∧
 ∀ (q1008 : Int × Int),
 q1008 = srcK true zs705 (place b x0) →
 List.length rows702 = List.length rows702 ∧
 Int.ofNat 4 = 4 ∧
 SOk
 (arrF 16 f701)
 rows702 [] ∧
 ∀ (q1010 : Int × Int),
 q1010 = srcK true rows702 (place b x0) →
 ∀ (x1012 : Bool),
 x1012 = !false →
 (x1012 = true →
 (true = true →
 (false = true →
 ∀ (x1017 : Bool),
 x1017 = !false →
 (x1017 = true →
 ∀ (x1020 : Bool),
 x1020 = !false →
 (x1020 = true →
 StructEq Try.prog 25 ∧
 (True →
 ∀ (x1024 : Bool),
 x1024 = (q1008.1 == x6 && q1008.2 == -1) →
 (x1024 = true →
 ∀ (x1027 : Bool),
 x1027 = (q1010.1 == 0) →
 (x1027 = true →
 SOk
 (arrF 16 f701)
 zs705 [] ∧
 ∀ (x1030 : Bool),
 x1030 = (x0 == 1) →
 ∀ (x1032 : Bool),
 x1032 = (readyB true zs705 == x1030) →
 (x1032 = true →
 List.length rows702 = List.length rows702 ∧
 SOk
 (arrF 16 f701)
 rows702 [] ∧
 ∀ (x1035 : Bool), x1035 = !readyB true rows702 → (x1035 = true → r = V.bool true) ∧ (x1035 = false → r = V.bool false)) ∧
 (x1032 = false → r = V.bool false)) ∧
 (x1027 = false → r = V.bool false)) ∧
 (x1024 = false → r = V.bool false))) ∧
 (x1020 = false → r = V.bool false)) ∧
 (x1017 = false → r = V.bool false)) ∧
 (false = false → r = V.bool false)) ∧
 (true = false → r = V.bool false)) ∧
 (x1012 = false → r = V.bool false))))) ∧
 (putOk true rows702 (place b x0) = false →
 Int.ofNat 4 = 4 ∧
 SOk
 (arrF 16 f701)
 rows702 [] ∧
 (putOk true rows702 (place b x0) = true →
 ∀ (zs1049 : List V),
 zs1049 = putY rows702 (place b x0) 256 7 →
 Int.ofNat 4 = 4 ∧
 SOk
 (arrF 16 f701)
 zs1049 [] ∧
 (putOk true zs1049 (place b x0) = true →
 ∀ (zs1052 : List V),
 zs1052 = putY zs1049 (place b x0) x6 (-1) →
 List.length rows702 = List.length rows702 ∧
 Int.ofNat 4 = 4 ∧
 SOk
 (arrF 16 f701)
 rows702 [] ∧
 (putOk true rows702 x0 = true →
 ∀ (zs1055 : List V),
 zs1055 = putY rows702 x0 x6 (-1) →
 Int.ofNat 4 = 4 ∧
 SOk
 (arrF 16 f701)
 rows702 [] ∧
 ∀ (q1057 : Int × Int),
 q1057 = srcK true rows702 (place b x0) →
 List.length rows702 = List.length rows702 ∧
 Int.ofNat 4 = 4 ∧
 SOk
 (arrF 16 f701)
 rows702 [] ∧
 ∀ (q1059 : Int × Int),
 q1059 = srcK true rows702 (place b x0) →
 ∀ (x1061 : Bool),
 x1061 = !false →
 (x1061 = true →
 (false = true →
 (true = true →
 ∀ (x1066 : Bool),
 x1066 = !true →
 (x1066 = true →
 ∀ (x1069 : Bool),
 x1069 = !true →
 (x1069 = true →
 StructEq Try.prog 25 ∧
 (True →
 ∀ (x1073 : Bool),
 x1073 = (q1057.1 == x6 && q1057.2 == -1) →
 (x1073 = true →
 ∀ (x1076 : Bool),
 x1076 = (q1059.1 == 0) →
 (x1076 = true →
 SOk
 (arrF 16 f701)
 rows702 [] ∧
 ∀ (x1079 : Bool),
 x1079 = (x0 == 1) →
 ∀ (x1081 : Bool),
 x1081 = (readyB true rows702 == x1079) →
 (x1081 = true →
 List.length rows702 = List.length rows702 ∧
 SOk
 (arrF 16 f701)
 rows702 [] ∧
 ∀ (x1084 : Bool), x1084 = !readyB true rows702 → (x1084 = true → r = V.bool true) ∧ (x1084 = false → r = V.bool false)) ∧
 (x1081 = false → r = V.bool false)) ∧
 (x1076 = false → r = V.bool false)) ∧
 (x1073 = false → r = V.bool false))) ∧
 (x1069 = false → r = V.bool false)) ∧
 (x1066 = false → r = V.bool false)) ∧
 (true = false → r = V.bool false)) ∧
 (false = false → r = V.bool false)) ∧
 (x1061 = false → r = V.bool false)) ∧
 (putOk true rows702 x0 = false →
 Int.ofNat 4 = 4 ∧
 SOk
 (arrF 16 f701)
 rows702 [] ∧
 ∀ (q1097 : Int × Int),
 q1097 = srcK true rows702 (place b x0) →
 List.length rows702 = List.length rows702 ∧
 Int.ofNat 4 = 4 ∧
 SOk
 (arrF 16 f701)
 rows702 [] ∧
 ∀ (q1099 : Int × Int),
 q1099 = srcK true rows702 (place b x0) →
 ∀ (x1101 : Bool),
 x1101 = !false →
 (x1101 = true →
 (false = true →
 (true = true →
 ∀ (x1106 : Bool),
 x1106 = !true →
 (x1106 = true →
 ∀ (x1109 : Bool),
 x1109 = !false →
 (x1109 = true →
 StructEq Try.prog 25 ∧
 (True →
 ∀ (x1113 : Bool),
 x1113 = (q1097.1 == x6 && q1097.2 == -1) →
 (x1113 = true →
 ∀ (x1116 : Bool),
 x1116 = (q1099.1 == 0) →
 (x1116 = true →
 SOk
 (arrF 16 f701)
 rows702 [] ∧
 ∀ (x1119 : Bool),
 x1119 = (x0 == 1) →
 ∀ (x1121 : Bool),
 x1121 = (readyB true rows702 == x1119) →
 (x1121 = true →
 List.length rows702 = List.length rows702 ∧
 SOk
 (arrF 16 f701)
 rows702 [] ∧
 ∀ (x1124 : Bool), x1124 = !readyB true rows702 → (x1124 = true → r = V.bool true) ∧ (x1124 = false → r = V.bool false)) ∧
 (x1121 = false → r = V.bool false)) ∧
 (x1116 = false → r = V.bool false)) ∧
 (x1113 = false → r = V.bool false))) ∧
 (x1109 = false → r = V.bool false)) ∧
 (x1106 = false → r = V.bool false)) ∧
 (true = false → r = V.bool false)) ∧
 (false = false → r = V.bool false)) ∧
 (x1101 = false → r = V.bool false))) ∧
 (putOk true zs1049 (place b x0) = false →
 List.length rows702 = List.length rows702 ∧
 Int.ofNat 4 = 4 ∧
 SOk
 (arrF 16 f701)
 rows702 [] ∧
 (putOk true rows702 x0 = true →
 ∀ (zs1138 : List V),
 zs1138 = putY rows702 x0 x6 (-1) →
 Int.ofNat 4 = 4 ∧
 SOk
 (arrF 16 f701)
 rows702 [] ∧
 ∀ (q1140 : Int × Int),
 q1140 = srcK true rows702 (place b x0) →
 List.length rows702 = List.length rows702 ∧
 Int.ofNat 4 = 4 ∧
 SOk
 (arrF 16 f701)
 rows702 [] ∧
 ∀ (q1142 : Int × Int),
 q1142 = srcK true rows702 (place b x0) →
 ∀ (x1144 : Bool),
 x1144 = !false →
 (x1144 = true →
 (false = true →
 (true = true →
 ∀ (x1149 : Bool),
 x1149 = !false →
 (x1149 = true →
 ∀ (x1152 : Bool),
 x1152 = !true →
 (x1152 = true →
 StructEq Try.prog 25 ∧
 (True →
 ∀ (x1156 : Bool),
 x1156 = (q1140.1 == x6 && q1140.2 == -1) →
 (x1156 = true →
 ∀ (x1159 : Bool),
 x1159 = (q1142.1 == 0) →
 (x1159 = true →
 SOk
 (arrF 16 f701)
 rows702 [] ∧
 ∀ (x1162 : Bool),
 x1162 = (x0 == 1) →
 ∀ (x1164 : Bool),
 x1164 = (readyB true rows702 == x1162) →
 (x1164 = true →
 List.length rows702 = List.length rows702 ∧
 SOk
 (arrF 16 f701)
 rows702 [] ∧
 ∀ (x1167 : Bool), x1167 = !readyB true rows702 → (x1167 = true → r = V.bool true) ∧ (x1167 = false → r = V.bool false)) ∧
 (x1164 = false → r = V.bool false)) ∧
 (x1159 = false → r = V.bool false)) ∧
 (x1156 = false → r = V.bool false))) ∧
 (x1152 = false → r = V.bool false)) ∧
 (x1149 = false → r = V.bool false)) ∧
 (true = false → r = V.bool false)) ∧
 (false = false → r = V.bool false)) ∧
 (x1144 = false → r = V.bool false)) ∧
 (putOk true rows702 x0 = false →
 Int.ofNat 4 = 4 ∧
 SOk
 (arrF 16 f701)
 rows702 [] ∧
 ∀ (q1180 : Int × Int),
 q1180 = srcK true rows702 (place b x0) →
 List.length rows702 = List.length rows702 ∧
 Int.ofNat 4 = 4 ∧
 SOk
 (arrF 16 f701)
 rows702 [] ∧
 ∀ (q1182 : Int × Int),
 q1182 = srcK true rows702 (place b x0) →
 ∀ (x1184 : Bool),
 x1184 = !false →
 (x1184 = true →
 (false = true →
 (true = true →
 ∀ (x1189 : Bool),
 x1189 = !false →
 (x1189 = true →
 ∀ (x1192 : Bool),
 x1192 = !false →
 (x1192 = true →
 StructEq Try.prog 25 ∧
 (True →
 ∀ (x1196 : Bool),
 x1196 = (q1180.1 == x6 && q1180.2 == -1) →
 (x1196 = true →
 ∀ (x1199 : Bool),
 x1199 = (q1182.1 == 0) →
 (x1199 = true →
 SOk
 (arrF 16 f701)
 rows702 [] ∧
 ∀ (x1202 : Bool),
 x1202 = (x0 == 1) →
 ∀ (x1204 : Bool),
 x1204 = (readyB true rows702 == x1202) →
 (x1204 = true →
 List.length rows702 = List.length rows702 ∧
 SOk
 (arrF 16 f701)
 rows702 [] ∧
 ∀ (x1207 : Bool), x1207 = !readyB true rows702 → (x1207 = true → r = V.bool true) ∧ (x1207 = false → r = V.bool false)) ∧
 (x1204 = false → r = V.bool false)) ∧
 (x1199 = false → r = V.bool false)) ∧
 (x1196 = false → r = V.bool false))) ∧
 (x1192 = false → r = V.bool false)) ∧
 (x1189 = false → r = V.bool false)) ∧
 (true = false → r = V.bool false)) ∧
 (false = false → r = V.bool false)) ∧
 (x1184 = false → r = V.bool false)))) ∧
 (putOk true rows702 (place b x0) = false →
 Int.ofNat 4 = 4 ∧
 SOk
 (arrF 16 f701)
 rows702 [] ∧
 (putOk true rows702 (place b x0) = true →
 ∀ (zs1221 : List V),
 zs1221 = putY rows702 (place b x0) x6 (-1) →
 List.length rows702 = List.length rows702 ∧
 Int.ofNat 4 = 4 ∧
 SOk
 (arrF 16 f701)
 rows702 [] ∧
 (putOk true rows702 x0 = true →
 ∀ (zs1224 : List V),
 zs1224 = putY rows702 x0 x6 (-1) →
 Int.ofNat 4 = 4 ∧
 SOk
 (arrF 16 f701)
 rows702 [] ∧
 ∀ (q1226 : Int × Int),
 q1226 = srcK true rows702 (place b x0) →
 List.length rows702 = List.length rows702 ∧
 Int.ofNat 4 = 4 ∧
 SOk
 (arrF 16 f701)
 rows702 [] ∧
 ∀ (q1228 : Int × Int),
 q1228 = srcK true rows702 (place b x0) →
 ∀ (x1230 : Bool),
 x1230 = !false →
 (x1230 = true →
 (false = true →
 (false = true →
 ∀ (x1235 : Bool),
 x1235 = !true →
 (x1235 = true →
 ∀ (x1238 : Bool),
 x1238 = !true →
 (x1238 = true →
 StructEq Try.prog 25 ∧
 (True →
 ∀ (x1242 : Bool),
 x1242 = (q1226.1 == x6 && q1226.2 == -1) →
 (x1242 = true →
 ∀ (x1245 : Bool),
 x1245 = (q1228.1 == 0) →
 (x1245 = true →
 SOk
 (arrF 16 f701)
 rows702 [] ∧
 ∀ (x1248 : Bool),
 x1248 = (x0 == 1) →
 ∀ (x1250 : Bool),
 x1250 = (readyB true rows702 == x1248) →
 (x1250 = true →
 List.length rows702 = List.length rows702 ∧
 SOk
 (arrF 16 f701)
 rows702 [] ∧
 ∀ (x1253 : Bool), x1253 = !readyB true rows702 → (x1253 = true → r = V.bool true) ∧ (x1253 = false → r = V.bool false)) ∧
 (x1250 = false → r = V.bool false)) ∧
 (x1245 = false → r = V.bool false)) ∧
 (x1242 = false → r = V.bool false))) ∧
 (x1238 = false → r = V.bool false)) ∧
 (x1235 = false → r = V.bool false)) ∧
 (false = false → r = V.bool false)) ∧
 (false = false → r = V.bool false)) ∧
 (x1230 = false → r = V.bool false)) ∧
 (putOk true rows702 x0 = false →
 Int.ofNat 4 = 4 ∧
 SOk
 (arrF 16 f701)
 rows702 [] ∧
 ∀ (q1266 : Int × Int),
 q1266 = srcK true rows702 (place b x0) →
 List.length rows702 = List.length rows702 ∧
 Int.ofNat 4 = 4 ∧
 SOk
 (arrF 16 f701)
 rows702 [] ∧
 ∀ (q1268 : Int × Int),
 q1268 = srcK true rows702 (place b x0) →
 ∀ (x1270 : Bool),
 x1270 = !false →
 (x1270 = true →
 (false = true →
 (false = true →
 ∀ (x1275 : Bool),
 x1275 = !true →
 (x1275 = true →
 ∀ (x1278 : Bool),
 x1278 = !false →
 (x1278 = true →
 StructEq Try.prog 25 ∧
 (True →
 ∀ (x1282 : Bool),
 x1282 = (q1266.1 == x6 && q1266.2 == -1) →
 (x1282 = true →
 ∀ (x1285 : Bool),
 x1285 = (q1268.1 == 0) →
 (x1285 = true →
 SOk
 (arrF 16 f701)
 rows702 [] ∧
 ∀ (x1288 : Bool),
 x1288 = (x0 == 1) →
 ∀ (x1290 : Bool),
 x1290 = (readyB true rows702 == x1288) →
 (x1290 = true →
 List.length rows702 = List.length rows702 ∧
 SOk
 (arrF 16 f701)
 rows702 [] ∧
 ∀ (x1293 : Bool), x1293 = !readyB true rows702 → (x1293 = true → r = V.bool true) ∧ (x1293 = false → r = V.bool false)) ∧
 (x1290 = false → r = V.bool false)) ∧
 (x1285 = false → r = V.bool false)) ∧
 (x1282 = false → r = V.bool false))) ∧
 (x1278 = false → r = V.bool false)) ∧
 (x1275 = false → r = V.bool false)) ∧
 (false = false → r = V.bool false)) ∧
 (false = false → r = V.bool false)) ∧
 (x1270 = false → r = V.bool false))) ∧
 (putOk true rows702 (place b x0) = false →
 List.length rows702 = List.length rows702 ∧
 Int.ofNat 4 = 4 ∧
 SOk
 (arrF 16 f701)
 rows702 [] ∧
 (putOk true rows702 x0 = true →
 ∀ (zs1307 : List V),
 zs1307 = putY rows702 x0 x6 (-1) →
 Int.ofNat 4 = 4 ∧
 SOk
 (arrF 16 f701)
 rows702 [] ∧
 ∀ (q1309 : Int × Int),
 q1309 = srcK true rows702 (place b x0) →
 List.length rows702 = List.length rows702 ∧
 Int.ofNat 4 = 4 ∧
 SOk
 (arrF 16 f701)
 rows702 [] ∧
 ∀ (q1311 : Int × Int),
 q1311 = srcK true rows702 (place b x0) →
 ∀ (x1313 : Bool),
 x1313 = !false →
 (x1313 = true →
 (false = true →
 (false = true →
 ∀ (x1318 : Bool),
 x1318 = !false →
 (x1318 = true →
 ∀ (x1321 : Bool),
 x1321 = !true →
 (x1321 = true →
 StructEq Try.prog 25 ∧
 (True →
 ∀ (x1325 : Bool),
 x1325 = (q1309.1 == x6 && q1309.2 == -1) →
 (x1325 = true →
 ∀ (x1328 : Bool),
 x1328 = (q1311.1 == 0) →
 (x1328 = true →
 SOk
 (arrF 16 f701)
 rows702 [] ∧
 ∀ (x1331 : Bool),
 x1331 = (x0 == 1) →
 ∀ (x1333 : Bool),
 x1333 = (readyB true rows702 == x1331) →
 (x1333 = true →
 List.length rows702 = List.length rows702 ∧
 SOk
 (arrF 16 f701)
 rows702 [] ∧
 ∀ (x1336 : Bool), x1336 = !readyB true rows702 → (x1336 = true → r = V.bool true) ∧ (x1336 = false → r = V.bool false)) ∧
 (x1333 = false → r = V.bool false)) ∧
 (x1328 = false → r = V.bool false)) ∧
 (x1325 = false → r = V.bool false))) ∧
 (x1321 = false → r = V.bool false)) ∧
 (x1318 = false → r = V.bool false)) ∧
 (false = false → r = V.bool false)) ∧
 (false = false → r = V.bool false)) ∧
 (x1313 = false → r = V.bool false)) ∧
 (putOk true rows702 x0 = false →
 Int.ofNat 4 = 4 ∧
 SOk
 (arrF 16 f701)
 rows702 [] ∧
 ∀ (q1349 : Int × Int),
 q1349 = srcK true rows702 (place b x0) →
 List.length rows702 = List.length rows702 ∧
 Int.ofNat 4 = 4 ∧
 SOk
 (arrF 16 f701)
 rows702 [] ∧
 ∀ (q1351 : Int × Int),
 q1351 = srcK true rows702 (place b x0) →
 ∀ (x1353 : Bool),
 x1353 = !false →
 (x1353 = true →
 (false = true →
 (false = true →
 ∀ (x1358 : Bool),
 x1358 = !false →
 (x1358 = true →
 ∀ (x1361 : Bool),
 x1361 = !false →
 (x1361 = true →
 StructEq Try.prog 25 ∧
 (True →
 ∀ (x1365 : Bool),
 x1365 = (q1349.1 == x6 && q1349.2 == -1) →
 (x1365 = true →
 ∀ (x1368 : Bool),
 x1368 = (q1351.1 == 0) →
 (x1368 = true →
 SOk
 (arrF 16 f701)
 rows702 [] ∧
 ∀ (x1371 : Bool),
 x1371 = (x0 == 1) →
 ∀ (x1373 : Bool),
 x1373 = (readyB true rows702 == x1371) →
 (x1373 = true →
 List.length rows702 = List.length rows702 ∧
 SOk
 (arrF 16 f701)
 rows702 [] ∧
 ∀ (x1376 : Bool), x1376 = !readyB true rows702 → (x1376 = true → r = V.bool true) ∧ (x1376 = false → r = V.bool false)) ∧
 (x1373 = false → r = V.bool false)) ∧
 (x1368 = false → r = V.bool false)) ∧
 (x1365 = false → r = V.bool false))) ∧
 (x1361 = false → r = V.bool false)) ∧
 (x1358 = false → r = V.bool false)) ∧
 (false = false → r = V.bool false)) ∧
 (false = false → r = V.bool false)) ∧
 (x1353 = false → r = V.bool false))))))))) := by kernel_rfl
end GoL
