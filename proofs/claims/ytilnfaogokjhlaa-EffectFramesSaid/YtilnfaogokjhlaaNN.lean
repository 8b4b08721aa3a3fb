/- A part of the proof: a logic for programs of this kind, proved sound over the model; contracts of functions; plain laws. -/
import Derived.Test.YtilnfaogokjhlaaND
set_option linter.all false
open Go Go.Proofs
namespace GoL
set_option linter.unusedVariables false
set_option maxRecDepth 100000
theorem n70 (m a : Int) (r : V) : wC Try.prog sp70 20 noHint (prsOf []) noLs 0 (bodyOf Try.f70) 1000 (initL [.int .i64 m, .int .i64 a] 0) [] (finK Try.prog none Try.f70.results.toList r) = (
 ∀ (x0 : Int),
 x0 = bits .and .i64 m 511 →
 ∀ (x2 : Bool),
 x2 = (x0 != 16) →
 (x2 = true → ∀ (x5 : Bool), x5 = (x0 != 256) → (x5 = true → r = V.agg [.int .i64 x0, .int .i64 (-1)]) ∧ (x5 = false → ∀ (x9 : Bool), x9 = decide (a < -1) → (x9 = true → r = V.agg [.int .i64 x0, .int .i64 (-1)]) ∧ (x9 = false → r = V.agg [.int .i64 x0, .int .i64 a]))) ∧
 (x2 = false → ∀ (x14 : Bool), x14 = decide (a < -1) → (x14 = true → r = V.agg [.int .i64 x0, .int .i64 (-1)]) ∧ (x14 = false → r = V.agg [.int .i64 x0, .int .i64 a]))) := by kernel_rfl
theorem n50 (m a : Int) (r : V) : wC Try.prog sp50 8 noHint (prsOf []) noLs 0 (bodyOf Try.f50) 1000 (initL [.agg [.int .i64 m, .int .i64 a]] 0) [] (finK Try.prog none Try.f50.results.toList r) = (
 r = V.agg [.int .i64 (made m a).1, .int .i64 (made m a).2]) := by kernel_rfl
theorem n46 (m a x : Int) (r : V) : wC Try.prog sp46 14 noHint (prsOf []) noLs 0 (bodyOf Try.f46) 1000 (initL [.agg [.int .i64 m, .int .i64 a], .int .i64 x] 0) [] (finK Try.prog none Try.f46.results.toList r) = (
 ∀ (x0 : Int), x0 = bits .and .i64 (made m a).1 x → r = V.agg [.int .i64 (made x0 (Prod.snd (made m a))).1, .int .i64 (made x0 (Prod.snd (made m a))).2]) := by kernel_rfl
theorem n26 (m a : Int) (r : V) : wC Try.prog sp26 14 noHint (prsOf []) noLs 0 (bodyOf Try.f26) 1000 (initL [.agg [.int .i64 m, .int .i64 a]] 0) [] (finK Try.prog none Try.f26.results.toList r) = (
 ∀ (x0 : Bool), x0 = ((made m a).1 != 0) → (x0 = true → ∀ (x3 : Int), x3 = bits .andNot .i64 (made m a).1 127 → ∀ (x5 : Bool), x5 = (x3 == 0) → r = V.bool x5) ∧ (x0 = false → r = V.bool false)) := by kernel_rfl
theorem n27 (m a : Int) (r : V) : wC Try.prog sp27 5 noHint (prsOf []) noLs 0 (bodyOf Try.f27) 1000 (initL [.agg [.int .i64 m, .int .i64 a]] 0) [] (finK Try.prog none Try.f27.results.toList r) = (
 r = V.agg [.int .i64 (meet m a (-1)).1, .int .i64 (meet m a (-1)).2]) := by kernel_rfl
theorem n30 (m a n b : Int) (r : V) : wC Try.prog sp30 10 noHint (prsOf [(1, [[], [0], [], [2, 1, 0], [1, 0, 3, 2], [4, 1, 0, 3, 2]])]) noLs 0 (bodyOf Try.f30) 1000 (initL [.agg [.int .i64 m, .int .i64 a], .agg [.int .i64 n, .int .i64 b]] 0) [] (finK Try.prog none Try.f30.results.toList r) = (
 StructEq Try.prog 24 ∧ ∀ (x0 : Bool), x0 = ((meet m a (-1)).1 == (meet n b (-1)).1 && (meet m a (-1)).2 == (meet n b (-1)).2) → r = V.bool x0) := by kernel_rfl
theorem n23  (r : V) : wC Try.prog sp23 2 noHint (prsOf []) noLs 0 (bodyOf Try.f23) 1000 (initL [] 0) [] (finK Try.prog none Try.f23.results.toList r) = (
 r = V.agg [.int .i64 0, .int .i64 (-1)]) := by kernel_rfl
theorem n29 (m a : Int) (r : V) : wC Try.prog sp29 6 noHint (prsOf [(1, [[], [], [0, 1], [2, 0, 1]])]) noLs 0 (bodyOf Try.f29) 1000 (initL [.agg [.int .i64 m, .int .i64 a]] 0) [] (finK Try.prog none Try.f29.results.toList r) = (
 r = V.bool (alikeK m a 0 (-1))) := by kernel_rfl
theorem nl10_0 (f : Nat → Int × Int) (n i : Int) (Nx Ex Rt : List V → List Blk → Prop) : wC Try.prog sp10 21 (hintOf [(5004, 25), (7004, 25)]) (prsOf []) noLs 0 (lcode Try.f10 0).2 1003 (List.zip [0, 2, 3, 5] [.int .i64 n, .ptr 1000 0 [], .ptr 1001 0 [], .int .i64 i]) (List.zip [1000, 1001] [⟨none, false, zS⟩, ⟨none, false, .agg [.agg (arrF 16 f), .bool false, .nils, .int .i64 0, .nils]⟩]) (endK ends10_0 Nx Ex Rt) = (
 ∀ (x0 : Bool),
 x0 = decide (i < 16) →
 (x0 = true →
 0 ≤ i ∧
 i < ↑16 ∧
 offQ
 (V.agg
 (arrF 16 f))
 [Int.toNat i] +
 0 =
 0 + Int.toNat i * 2 ∧
 (∃ u3,
 subQ
 (V.agg
 (arrF 16 f))
 [Int.toNat i] =
 some u3 ∧
 V.sz (V.agg [.int .i64 0, .int .i64 (-1)]) = V.sz u3) ∧
 ∃ f4 : Nat → Int × Int,
 V.agg
 (arrF 16 f4) =
 updQ (V.agg [.int .i64 0, .int .i64 (-1)])
 (V.agg
 (arrF 16 f))
 [Int.toNat i] ∧
 ∀ (x5 : Bool),
 x5 = decide (i < n) →
 (x5 = true →
 0 ≤ i ∧
 i < ↑16 ∧
 offQ
 (V.agg
 (arrF 16 f4))
 [Int.toNat i] +
 0 =
 0 + Int.toNat i * 2 ∧
 (∃ u8,
 subQ
 (V.agg
 (arrF 16 f4))
 [Int.toNat i] =
 some u8 ∧
 V.sz (V.agg [.int .i64 127, .int .i64 (-1)]) = V.sz u8) ∧
 ∃ f9 : Nat → Int × Int,
 V.agg
 (arrF 16 f9) =
 updQ (V.agg [.int .i64 127, .int .i64 (-1)])
 (V.agg
 (arrF 16 f4))
 [Int.toNat i] ∧
 ∀ (x10 : Int),
 x10 = IntKind.wrap .i64 (i + 1) →
 Nx [V.int .i64 n, V.ptr 1000 0 [], V.ptr 1001 0 [], V.int .i64 x10]
 [⟨none, false, V.agg
 [.agg
 (arrF 16 zF),
 .bool false, .nils, .int .i64 0, .nils]⟩,
 ⟨none, false, V.agg
 [.agg
 (arrF 16 f9),
 .bool false, .nils, .int .i64 0, .nils]⟩]) ∧
 (x5 = false →
 ∀ (x13 : Int),
 x13 = IntKind.wrap .i64 (i + 1) →
 Nx [V.int .i64 n, V.ptr 1000 0 [], V.ptr 1001 0 [], V.int .i64 x13]
 [⟨none, false, V.agg
 [.agg
 (arrF 16 zF),
 .bool false, .nils, .int .i64 0, .nils]⟩,
 ⟨none, false, V.agg
 [.agg
 (arrF 16 f4),
 .bool false, .nils, .int .i64 0, .nils]⟩])) ∧
 (x0 = false →
 Ex [V.ptr 1000 0 [], V.ptr 1001 0 []]
 [⟨none, false, V.agg
 [.agg
 (arrF 16 zF),
 .bool false, .nils, .int .i64 0, .nils]⟩,
 ⟨none, false, V.agg
 [.agg
 (arrF 16 f),
 .bool false, .nils, .int .i64 0, .nils]⟩])) := by kernel_rfl
theorem n10 (n : Int) (r : V) : wC Try.prog sp10 21 (hintOf [(5004, 25), (7004, 25)]) (prsOf []) ls10 0 (bodyOf Try.f10) 1000 (initL [.int .i64 n] 0) [] (finK Try.prog none Try.f10.results.toList r) = (
 Int.ofNat 0 = 0 ∧
 V.agg
 [.agg
 (arrF 16 zF),
 .bool false, .nils, .int .i64 0, .nils] =
 V.agg
 [.agg
 (arrF 16 zF),
 .bool false, .nils, .int .i64 0, .nils] ∧
 Int.ofNat 0 = 0 ∧
 (∃ f0 : Nat → Int × Int,
 (arrF 16 zF) =
 (arrF 16 f0)) ∧
 r =
 V.agg
 [.agg
 (arrF 16 (entF n)),
 .bool false, .list false [], .int .i64 0, .list false []]) := by kernel_rfl
theorem n71 (f : Nat → Int × Int) (fr : Bool) (ys ts : List V) (rm : Int) (r : V) : wC Try.prog sp71 26 noHint (prsOf []) noLs 0 (bodyOf Try.f71) 1000 (initL [.agg [.agg (arrF 16 f), .bool fr, .list false ys, .int .i64 rm, .list false ts]] 0) [] (finK Try.prog none Try.f71.results.toList r) = (
 List.length ys ≤ 9223372036854775807 →
 ∀ (x1 : Int),
 x1 = ↑(List.length ys) →
 (0 ≤ x1 ∧ x1 ≤ x1 ∧ x1 ≤ ↑9223372036854775807 ∧ ↑16 * x1 ≤ 281474976710656 ∧ true = true) ∧
 (True →
 (Int.toNat x1 = List.length (List.replicate (Int.toNat x1) (V.agg [.int .i64 0, .int .i64 0])) ∧ 24 = 24 ∧ some 2 = some 2 ∧ True ∧ (∀ (v4 : V), List.Mem v4 ys → V.sz v4 = 2) ∧ (∀ (j6 : Nat), V.list false ys ≠ V.sl 1005 j6) ∧ ∀ (s7 : List UInt8), V.list false ys ≠ V.str s7) ∧
 (True →
 ∀ (x9 : Int),
 x9 = ↑(min (List.length ys) (List.length (List.replicate (Int.toNat x1) (V.agg [.int .i64 0, .int .i64 0])))) →
 List.length ts ≤ 9223372036854775807 →
 ∀ (x12 : Int),
 x12 = ↑(List.length ts) →
 (0 ≤ x12 ∧ x12 ≤ x12 ∧ x12 ≤ ↑9223372036854775807 ∧ ↑8 * x12 ≤ 281474976710656 ∧ true = true) ∧
 (True →
 (Int.toNat x12 = List.length (List.replicate (Int.toNat x12) (V.int .i64 0)) ∧ 3 = 3 ∧ some 1 = some 1 ∧ True ∧ (∀ (v15 : V), List.Mem v15 ts → V.sz v15 = 1) ∧ (∀ (j17 : Nat), V.list false ts ≠ V.sl 1014 j17) ∧ ∀ (s18 : List UInt8), V.list false ts ≠ V.str s18) ∧
 (True →
 ∀ (x20 : Int),
 x20 = ↑(min (List.length ts) (List.length (List.replicate (Int.toNat x12) (V.int .i64 0)))) →
 Int.toNat x1 = List.length (List.take (List.length (List.replicate (Int.toNat x1) (V.agg [.int .i64 0, .int .i64 0]))) ys ++ List.drop (List.length ys) (List.replicate (Int.toNat x1) (V.agg [.int .i64 0, .int .i64 0]))) ∧
 Int.toNat x12 = List.length (List.take (List.length (List.replicate (Int.toNat x12) (V.int .i64 0))) ts ++ List.drop (List.length ts) (List.replicate (Int.toNat x12) (V.int .i64 0))) ∧
 r =
 V.agg
 [.agg
 (arrF 16 f),
 .bool fr, .list false (List.take (List.length (List.replicate (Int.toNat x1) (V.agg [.int .i64 0, .int .i64 0]))) ys ++ List.drop (List.length ys) (List.replicate (Int.toNat x1) (V.agg [.int .i64 0, .int .i64 0]))), .int .i64 rm,
 .list false (List.take (List.length (List.replicate (Int.toNat x12) (V.int .i64 0))) ts ++ List.drop (List.length ts) (List.replicate (Int.toNat x12) (V.int .i64 0)))]))))) := by kernel_rfl
theorem n76 (f : Nat → Int × Int) (fr : Bool) (ys ts : List V) (rm : Int) (n : Int) (r : V) : wC Try.prog sp76 18 noHint (prsOf []) noLs 0 (bodyOf Try.f76) 1000 (initL [.agg [.agg (arrF 16 f), .bool fr, .list false ys, .int .i64 rm, .list false ts], .int .i64 n] 0) [] (finK Try.prog none Try.f76.results.toList r) = (
 (fr = true → ∀ (x1 : Bool), x1 = decide (n ≥ 0) → (x1 = true → List.length ys ≤ 9223372036854775807 → ∀ (x5 : Int), x5 = ↑(List.length ys) → ∀ (x7 : Bool), x7 = decide (n < x5) → r = V.bool x7) ∧ (x1 = false → r = V.bool false)) ∧ (fr = false → r = V.bool false)) := by kernel_rfl
theorem nl47_0 (f : Nat → Int × Int) (fr : Bool) (ys ts : List V) (rm : Int) (i : Int) (Nx Ex Rt : List V → List Blk → Prop) : wC Try.prog sp47 20 (hintOf [(5004, 25)]) (prsOf []) noLs 0 (lcode Try.f47 0).2 1007 (List.zip [2, 4, 5] [.ptr 1000 0 [], .ptr 1001 0 [], .int .i64 i]) (List.zip [1000, 1001] [⟨none, false, .agg [.agg (arrF 16 f), .bool fr, .list false ys, .int .i64 rm, .list false ts]⟩, ⟨none, false, zS⟩]) (endK ends47_0 Nx Ex Rt) = (
 ∀ (x0 : Bool),
 x0 = decide (i < 16) →
 (x0 = true →
 0 ≤ i ∧
 i < ↑16 ∧
 offQ
 (V.agg
 (arrF 16 f))
 [Int.toNat i] +
 0 =
 0 + Int.toNat i * 2 ∧
 (∃ u3,
 subQ
 (V.agg
 (arrF 16 f))
 [Int.toNat i] =
 some u3 ∧
 V.sz (V.agg [.int .i64 0, .int .i64 (-1)]) = V.sz u3) ∧
 ∃ f4 : Nat → Int × Int,
 V.agg
 (arrF 16 f4) =
 updQ (V.agg [.int .i64 0, .int .i64 (-1)])
 (V.agg
 (arrF 16 f))
 [Int.toNat i] ∧
 ∀ (x5 : Int),
 x5 = IntKind.wrap .i64 (i + 1) →
 Nx [V.ptr 1000 0 [], V.ptr 1001 0 [], V.int .i64 x5]
 [⟨none, false, V.agg
 [.agg
 (arrF 16 f4),
 .bool fr, .list false ys, .int .i64 rm, .list false ts]⟩,
 ⟨none, false, V.agg
 [.agg
 (arrF 16 zF),
 .bool false, .nils, .int .i64 0, .nils]⟩]) ∧
 (x0 = false →
 Ex [V.ptr 1000 0 [], V.ptr 1001 0 []]
 [⟨none, false, V.agg
 [.agg
 (arrF 16 f),
 .bool fr, .list false ys, .int .i64 rm, .list false ts]⟩,
 ⟨none, false, V.agg
 [.agg
 (arrF 16 zF),
 .bool false, .nils, .int .i64 0, .nils]⟩])) := by kernel_rfl
theorem n47 (f : Nat → Int × Int) (fr : Bool) (ys ts : List V) (rm : Int) (n : Int) (r : V) : wC Try.prog sp47 20 (hintOf [(5004, 25)]) (prsOf []) ls47 0 (bodyOf Try.f47) 1000 (initL [.agg [.agg (arrF 16 f), .bool fr, .list false ys, .int .i64 rm, .list false ts], .int .i64 n] 0) [] (finK Try.prog none Try.f47.results.toList r) = (
 SOk
 (arrF 16 f)
 ys ts ∧
 ∀ (z0 : Int),
 (z0 = if 16 < n then 16 else n) →
 ∀ (z2 : Int),
 (z2 = if 0 < z0 then z0 else 0) →
 0 ≤ z2 ∧
 V.agg
 [.agg
 (arrF 16 zF),
 .bool false, .nils, .int .i64 0, .nils] =
 V.agg
 [.agg
 (arrF 16 zF),
 .bool false, .nils, .int .i64 0, .nils] ∧
 ∃ f4 : Nat → Int × Int,
 (arrF 16 f) =
 (arrF 16 f4) ∧
 r =
 V.agg
 [.agg
 (arrF 16 (cutF f4 z2)),
 .bool fr, .list false ys, .int .i64 rm, .list false ts]) := by kernel_rfl
theorem nl15_0 (xs : List V) (n i : Int) (Nx Ex Rt : List V → List Blk → Prop) : wC Try.prog sp15 30 noHint (prsOf []) noLs 0 (lcode Try.f15 0).2 1013 (List.zip [15, 16, 17] [.list false xs, .int .i64 n, .int .i64 i]) (List.zip [] []) (endK ends15_0 Nx Ex Rt) = (
 ∀ (x0 : Bool),
 x0 = decide (i < n) →
 (x0 = true →
 0 ≤ i ∧
 i < ↑(List.length xs) ∧
 ∃ n3 n4,
 getV xs i = V.agg [.int .i64 n3, .int .i64 n4] ∧
 (plain n3 n4 = true → ∀ (x6 : Int), x6 = IntKind.wrap .i64 (i + 1) → Nx [V.list false xs, V.int .i64 n, V.int .i64 x6] []) ∧
 (plain n3 n4 = false → ∀ (x9 : Bool), x9 = ((meet n3 n4 (-1)).1 == 128) → (x9 = true → ∀ (x12 : Int), x12 = IntKind.wrap .i64 (i + 1) → Nx [V.list false xs, V.int .i64 n, V.int .i64 x12] []) ∧ (x9 = false → Rt [V.gd true (V.bool false)] []))) ∧
 (x0 = false → Ex [] [])) := by kernel_rfl
theorem n15 (f : Nat → Int × Int) (fr : Bool) (ys ts : List V) (rm : Int) (n : Int) (r : V) : wC Try.prog sp15 30 noHint (prsOf []) ls15 0 (bodyOf Try.f15) 1000 (initL [.agg [.agg (arrF 16 f), .bool fr, .list false ys, .int .i64 rm, .list false ts], .int .i64 n] 0) [] (finK Try.prog none Try.f15.results.toList r) = (
 ∀ (x0 : Bool),
 x0 = decide (n < 0) →
 (x0 = true → r = V.bool false) ∧
 (x0 = false →
 ∀ (x4 : Bool),
 x4 = decide (n > 16) →
 (x4 = true → r = V.bool false) ∧
 (x4 = false →
 0 ≤ n ∧
 n ≤ ↑16 ∧
 ∀ (ys8 : List V),
 ys8 =
 List.take (Int.toNat n)
 (arrF 16 f) →
 List.length ys8 ≤ 9223372036854775807 → ∀ (x11 : Int), x11 = ↑(List.length ys8) → Int.ofNat 0 = 0 ∧ x11 = ↑(List.length ys8) ∧ List.length ys8 ≤ 100000 ∧ KLs ys8 ∧ (goods ys8 = true → r = V.bool true) ∧ (goods ys8 = false → r = V.bool false)))) := by kernel_rfl
theorem nl51_0 (ys : List V) (n i : Int) (Nx Ex Rt : List V → List Blk → Prop) : wC Try.prog sp51 19 noHint (prsOf []) noLs 0 (lcode Try.f51 0).2 1004 (List.zip [0, 1, 7, 8] [.list false ys, .fn 29 [], .int .i64 n, .int .i64 i]) (List.zip [] []) (endK ends51_0 Nx Ex Rt) = (
 ∀ (x0 : Bool),
 x0 = decide (i < n) → (x0 = true → 0 ≤ i ∧ i < ↑(List.length ys) ∧ ∃ n3 n4, getV ys i = V.agg [.int .i64 n3, .int .i64 n4] ∧ (alikeK n3 n4 0 (-1) = true → Rt [V.int .i64 i] []) ∧ (alikeK n3 n4 0 (-1) = false → ∀ (x7 : Int), x7 = IntKind.wrap .i64 (i + 1) → Nx [V.list false ys, V.fn 29 [], V.int .i64 n, V.int .i64 x7] [])) ∧ (x0 = false → Ex [] [])) := by kernel_rfl
theorem n51 (ys : List V) (r : V) : wC Try.prog sp51 19 noHint (prsOf []) ls51 0 (bodyOf Try.f51) 1000 (initL [.list false ys, .fn 29 []] 0) [] (finK Try.prog none Try.f51.results.toList r) = (
 List.length ys ≤ 9223372036854775807 → ∀ (x1 : Int), x1 = ↑(List.length ys) → Int.ofNat 0 = 0 ∧ x1 = ↑(List.length ys) ∧ List.length ys ≤ 100000 ∧ KLs ys ∧ (idxF ys 0 = -1 → r = V.int .i64 (-1)) ∧ (0 ≤ idxF ys 0 → r = V.int .i64 (idxF ys 0))) := by kernel_rfl
theorem n28 (ys : List V) (r : V) : wC Try.prog sp28 9 noHint (prsOf []) noLs 0 (bodyOf Try.f28) 1000 (initL [.list false ys, .fn 29 []] 0) [] (finK Try.prog none Try.f28.results.toList r) = (
 KLs ys ∧ List.length ys ≤ 100000 ∧ ∀ (x0 : Bool), x0 = decide (idxF ys 0 ≥ 0) → r = V.bool x0) := by kernel_rfl
theorem n16 (f : Nat → Int × Int) (fr : Bool) (ys ts : List V) (rm : Int) (r : V) : wC Try.prog sp16 12 noHint (prsOf []) noLs 0 (bodyOf Try.f16) 1000 (initL [.agg [.agg (arrF 16 f), .bool fr, .list false ys, .int .i64 rm, .list false ts]] 0) [] (finK Try.prog none Try.f16.results.toList r) = (
 ∀ (x0 : Bool), x0 = !fr → (x0 = true → r = V.bool true) ∧ (x0 = false → KLs ys ∧ List.length ys ≤ 100000 ∧ ∀ (x4 : Bool), x4 = !decide (idxF ys 0 ≥ 0) → r = V.bool x4)) := by kernel_rfl
theorem n71h (f : Nat → Int × Int) (fr : Bool) (ys ts : List V) (rm : Int) (r : V) (ks : List Blk) : wC Try.prog sp71 26 (hintOf [(6999, 1014)]) (prsOf []) noLs 0 (bodyOf Try.f71) 1000 (initL [.agg [.agg (arrF 16 f), .bool fr, .list false ys, .int .i64 rm, .list false ts]] 0) [] (finC Try.prog none Try.f71.results.toList [1005] fun v bs => r = v ∧ ks = bs) = (
 List.length ys ≤ 9223372036854775807 →
 ∀ (x1 : Int),
 x1 = ↑(List.length ys) →
 (0 ≤ x1 ∧ x1 ≤ x1 ∧ x1 ≤ ↑9223372036854775807 ∧ ↑16 * x1 ≤ 281474976710656 ∧ true = true) ∧
 (True →
 (Int.toNat x1 = List.length (List.replicate (Int.toNat x1) (V.agg [.int .i64 0, .int .i64 0])) ∧ 24 = 24 ∧ some 2 = some 2 ∧ True ∧ (∀ (v4 : V), List.Mem v4 ys → V.sz v4 = 2) ∧ (∀ (j6 : Nat), V.list false ys ≠ V.sl 1005 j6) ∧ ∀ (s7 : List UInt8), V.list false ys ≠ V.str s7) ∧
 (True →
 ∀ (x9 : Int),
 x9 = ↑(min (List.length ys) (List.length (List.replicate (Int.toNat x1) (V.agg [.int .i64 0, .int .i64 0])))) →
 List.length ts ≤ 9223372036854775807 →
 ∀ (x12 : Int),
 x12 = ↑(List.length ts) →
 (0 ≤ x12 ∧ x12 ≤ x12 ∧ x12 ≤ ↑9223372036854775807 ∧ ↑8 * x12 ≤ 281474976710656 ∧ true = true) ∧
 (True →
 (Int.toNat x12 = List.length (List.replicate (Int.toNat x12) (V.int .i64 0)) ∧ 3 = 3 ∧ some 1 = some 1 ∧ True ∧ (∀ (v15 : V), List.Mem v15 ts → V.sz v15 = 1) ∧ (∀ (j17 : Nat), V.list false ts ≠ V.sl 1014 j17) ∧ ∀ (s18 : List UInt8), V.list false ts ≠ V.str s18) ∧
 (True →
 ∀ (x20 : Int),
 x20 = ↑(min (List.length ts) (List.length (List.replicate (Int.toNat x12) (V.int .i64 0)))) →
 Int.toNat x12 = List.length (List.take (List.length (List.replicate (Int.toNat x12) (V.int .i64 0))) ts ++ List.drop (List.length ts) (List.replicate (Int.toNat x12) (V.int .i64 0))) ∧
 r =
 V.agg
 [.agg
 (arrF 16 f),
 .bool fr, .sl 1005 (Int.toNat x1), .int .i64 rm, .list false (List.take (List.length (List.replicate (Int.toNat x12) (V.int .i64 0))) ts ++ List.drop (List.length ts) (List.replicate (Int.toNat x12) (V.int .i64 0)))] ∧
 ks = [⟨some 24, false, V.agg (List.take (List.length (List.replicate (Int.toNat x1) (V.agg [.int .i64 0, .int .i64 0]))) ys ++ List.drop (List.length ys) (List.replicate (Int.toNat x1) (V.agg [.int .i64 0, .int .i64 0])))⟩]))))) := by kernel_rfl
theorem n75 (f : Nat → Int × Int) (fr : Bool) (ys ts : List V) (rm : Int) (tg n m a : Int) (ls : List V) (r : V) : wC Try.prog sp75 64 (hintOf [(3006, 25), (7007, 24)]) (prsOf [(3, [[], [0], [], [2], [], [4, 1, 0, 2, 3], [5, 4, 1, 0, 2, 3]]), (7, [[], [0], [], [2], [], [4], [1, 0, 3, 2, 4, 5], [6, 1, 0, 3, 2, 4, 5]])]) noLs 0 (bodyOf Try.f75) 1000 (initL [.agg [.agg (arrF 16 f), .bool fr, .list false ys, .int .i64 rm, .list false ts], .agg [.int .i64 tg, .int .i64 n, .list false ls], .agg [.int .i64 m, .int .i64 a]] 0) [] (finK Try.prog none Try.f75.results.toList r) = (
 ∀ (x0 : Bool),
 x0 = (tg == 3) →
 (x0 = true →
 ∀ (x3 : Bool),
 x3 = decide (n ≥ 0) →
 (x3 = true →
 ∀ (x6 : Bool),
 x6 = decide (n < 16) →
 (x6 = true →
 SOk
 (arrF 16 f)
 ys ts ∧
 ∀ (zs9 : List V),
 zs9 = ys →
 0 ≤ n ∧
 n < ↑16 ∧
 offQ
 (V.agg
 (arrF 16 f))
 [Int.toNat n] +
 0 =
 0 + Int.toNat n * 2 ∧
 (∃ u11,
 subQ
 (V.agg
 (arrF 16 f))
 [Int.toNat n] =
 some u11 ∧
 V.sz (V.agg [.int .i64 (meet m a (-1)).1, .int .i64 (meet m a (-1)).2]) = V.sz u11) ∧
 ∃ f12 : Nat → Int × Int,
 V.agg
 (arrF 16 f12) =
 updQ (V.agg [.int .i64 (meet m a (-1)).1, .int .i64 (meet m a (-1)).2])
 (V.agg
 (arrF 16 f))
 [Int.toNat n] ∧
 List.length zs9 = List.length zs9 ∧
 r =
 V.tup
 [.agg
 [.agg
 (arrF 16 f12),
 .bool fr, .list false zs9, .int .i64 rm, .list false ts],
 .bool true]) ∧
 (x6 = false →
 ∀ (x14 : Bool),
 x14 = (tg == 4) →
 (x14 = true →
 SOk
 (arrF 16 f)
 ys ts ∧
 (slotB fr ys n = true →
 0 ≤ n ∧
 n < ↑(List.length ys) ∧
 ∃ n18 n19,
 getV ys n = V.agg [.int .i64 n18, .int .i64 n19] ∧
 ∀ (x20 : Int),
 x20 = bits .and .i64 (meet n18 n19 (-1)).1 256 →
 ∀ (x22 : Bool),
 x22 = (x20 == 0) →
 (x22 = true →
 SOk
 (arrF 16 f)
 ys ts ∧
 ∀ (zs25 : List V),
 zs25 = ys →
 List.length zs25 = List.length zs25 ∧
 0 ≤ n ∧
 n < ↑(List.length zs25) ∧
 some 2 = some 2 ∧
 List.length zs25 = List.length zs25 ∧
 [Int.toNat n] ≠ [] ∧
 offQ (V.agg zs25) [Int.toNat n] = Int.toNat n * 2 ∧
 (∃ u27, subQ (V.agg zs25) [Int.toNat n] = some u27 ∧ V.sz (V.agg [.int .i64 (meet m a (-1)).1, .int .i64 (meet m a (-1)).2]) = V.sz u27 ∧ V.sz (V.agg [.int .i64 (meet m a (-1)).1, .int .i64 (meet m a (-1)).2]) = V.sz u27) ∧
 ∃ rows'28,
 V.agg rows'28 = updQ (V.agg [.int .i64 (meet m a (-1)).1, .int .i64 (meet m a (-1)).2]) (V.agg zs25) [Int.toNat n] ∧
 List.length zs25 = List.length rows'28 ∧
 r =
 V.tup
 [.agg
 [.agg
 (arrF 16 f),
 .bool fr, .list false rows'28, .int .i64 rm, .list false ts],
 .bool true]) ∧
 (x22 = false →
 r =
 V.tup
 [.agg
 [.agg
 (arrF 16 f),
 .bool fr, .list false ys, .int .i64 rm, .list false ts],
 .bool false])) ∧
 (slotB fr ys n = false →
 r =
 V.tup
 [.agg
 [.agg
 (arrF 16 f),
 .bool fr, .list false ys, .int .i64 rm, .list false ts],
 .bool false])) ∧
 (x14 = false →
 r =
 V.tup
 [.agg
 [.agg
 (arrF 16 f),
 .bool fr, .list false ys, .int .i64 rm, .list false ts],
 .bool false]))) ∧
 (x3 = false →
 ∀ (x33 : Bool),
 x33 = (tg == 4) →
 (x33 = true →
 SOk
 (arrF 16 f)
 ys ts ∧
 (slotB fr ys n = true →
 0 ≤ n ∧
 n < ↑(List.length ys) ∧
 ∃ n37 n38,
 getV ys n = V.agg [.int .i64 n37, .int .i64 n38] ∧
 ∀ (x39 : Int),
 x39 = bits .and .i64 (meet n37 n38 (-1)).1 256 →
 ∀ (x41 : Bool),
 x41 = (x39 == 0) →
 (x41 = true →
 SOk
 (arrF 16 f)
 ys ts ∧
 ∀ (zs44 : List V),
 zs44 = ys →
 List.length zs44 = List.length zs44 ∧
 0 ≤ n ∧
 n < ↑(List.length zs44) ∧
 some 2 = some 2 ∧
 List.length zs44 = List.length zs44 ∧
 [Int.toNat n] ≠ [] ∧
 offQ (V.agg zs44) [Int.toNat n] = Int.toNat n * 2 ∧
 (∃ u46, subQ (V.agg zs44) [Int.toNat n] = some u46 ∧ V.sz (V.agg [.int .i64 (meet m a (-1)).1, .int .i64 (meet m a (-1)).2]) = V.sz u46 ∧ V.sz (V.agg [.int .i64 (meet m a (-1)).1, .int .i64 (meet m a (-1)).2]) = V.sz u46) ∧
 ∃ rows'47,
 V.agg rows'47 = updQ (V.agg [.int .i64 (meet m a (-1)).1, .int .i64 (meet m a (-1)).2]) (V.agg zs44) [Int.toNat n] ∧
 List.length zs44 = List.length rows'47 ∧
 r =
 V.tup
 [.agg
 [.agg
 (arrF 16 f),
 .bool fr, .list false rows'47, .int .i64 rm, .list false ts],
 .bool true]) ∧
 (x41 = false →
 r =
 V.tup
 [.agg
 [.agg
 (arrF 16 f),
 .bool fr, .list false ys, .int .i64 rm, .list false ts],
 .bool false])) ∧
 (slotB fr ys n = false →
 r =
 V.tup
 [.agg
 [.agg
 (arrF 16 f),
 .bool fr, .list false ys, .int .i64 rm, .list false ts],
 .bool false])) ∧
 (x33 = false →
 r =
 V.tup
 [.agg
 [.agg
 (arrF 16 f),
 .bool fr, .list false ys, .int .i64 rm, .list false ts],
 .bool false]))) ∧
 (x0 = false →
 ∀ (x52 : Bool),
 x52 = (tg == 4) →
 (x52 = true →
 SOk
 (arrF 16 f)
 ys ts ∧
 (slotB fr ys n = true →
 0 ≤ n ∧
 n < ↑(List.length ys) ∧
 ∃ n56 n57,
 getV ys n = V.agg [.int .i64 n56, .int .i64 n57] ∧
 ∀ (x58 : Int),
 x58 = bits .and .i64 (meet n56 n57 (-1)).1 256 →
 ∀ (x60 : Bool),
 x60 = (x58 == 0) →
 (x60 = true →
 SOk
 (arrF 16 f)
 ys ts ∧
 ∀ (zs63 : List V),
 zs63 = ys →
 List.length zs63 = List.length zs63 ∧
 0 ≤ n ∧
 n < ↑(List.length zs63) ∧
 some 2 = some 2 ∧
 List.length zs63 = List.length zs63 ∧
 [Int.toNat n] ≠ [] ∧
 offQ (V.agg zs63) [Int.toNat n] = Int.toNat n * 2 ∧
 (∃ u65, subQ (V.agg zs63) [Int.toNat n] = some u65 ∧ V.sz (V.agg [.int .i64 (meet m a (-1)).1, .int .i64 (meet m a (-1)).2]) = V.sz u65 ∧ V.sz (V.agg [.int .i64 (meet m a (-1)).1, .int .i64 (meet m a (-1)).2]) = V.sz u65) ∧
 ∃ rows'66,
 V.agg rows'66 = updQ (V.agg [.int .i64 (meet m a (-1)).1, .int .i64 (meet m a (-1)).2]) (V.agg zs63) [Int.toNat n] ∧
 List.length zs63 = List.length rows'66 ∧
 r =
 V.tup
 [.agg
 [.agg
 (arrF 16 f),
 .bool fr, .list false rows'66, .int .i64 rm, .list false ts],
 .bool true]) ∧
 (x60 = false →
 r =
 V.tup
 [.agg
 [.agg
 (arrF 16 f),
 .bool fr, .list false ys, .int .i64 rm, .list false ts],
 .bool false])) ∧
 (slotB fr ys n = false →
 r =
 V.tup
 [.agg
 [.agg
 (arrF 16 f),
 .bool fr, .list false ys, .int .i64 rm, .list false ts],
 .bool false])) ∧
 (x52 = false →
 r =
 V.tup
 [.agg
 [.agg
 (arrF 16 f),
 .bool fr, .list false ys, .int .i64 rm, .list false ts],
 .bool false]))) := by kernel_rfl
theorem n72 (f : Nat → Int × Int) (fr : Bool) (ys ts : List V) (rm : Int) (tg n : Int) (ls ms : List V) (r : V) : wC Try.prog sp72 67 (hintOf [(4004, 24)]) (prsOf []) noLs 0 (bodyOf Try.f72) 1000 (initL [.agg [.agg (arrF 16 f), .bool fr, .list false ys, .int .i64 rm, .list false ts], .agg [.int .i64 tg, .int .i64 n, .list false ls], .list false ms] 0) [] (finK Try.prog none Try.f72.results.toList r) = (
 ∀ (x0 : Bool),
 x0 = (tg == 3) →
 (x0 = true →
 ∀ (x3 : Bool),
 x3 = decide (n ≥ 0) →
 (x3 = true →
 ∀ (x6 : Bool),
 x6 = decide (n < 16) →
 (x6 = true →
 0 ≤ n ∧
 n < ↑16 ∧
 ∃ n9 n10,
 subQ
 (V.agg
 [.agg
 (arrF 16 f),
 .bool fr, .list false ys, .int .i64 rm, .list false ts])
 [0, Int.toNat n] =
 some (V.agg [.int .i64 n9, .int .i64 n10]) ∧
 offQ
 (V.agg
 [.agg
 (arrF 16 f),
 .bool fr, .list false ys, .int .i64 rm, .list false ts])
 [0, Int.toNat n] =
 0 + Int.toNat n * 2 ∧
 r = V.agg [.int .i64 (meet n9 n10 (-1)).1, .int .i64 (meet n9 n10 (-1)).2]) ∧
 (x6 = false → r = V.agg [.int .i64 0, .int .i64 (-1)])) ∧
 (x3 = false → r = V.agg [.int .i64 0, .int .i64 (-1)])) ∧
 (x0 = false →
 ∀ (x14 : Bool),
 x14 = (tg == 4) →
 (x14 = true →
 SOk
 (arrF 16 f)
 ys ts ∧
 (slotB fr ys n = true → 0 ≤ n ∧ n < ↑(List.length ys) ∧ ∃ n18 n19, getV ys n = V.agg [.int .i64 n18, .int .i64 n19] ∧ r = V.agg [.int .i64 (meet n18 n19 (-1)).1, .int .i64 (meet n18 n19 (-1)).2]) ∧ (slotB fr ys n = false → r = V.agg [.int .i64 0, .int .i64 (-1)])) ∧
 (x14 = false →
 ∀ (x22 : Bool),
 x22 = (tg == 1) →
 (x22 = true → r = V.agg [.int .i64 1, .int .i64 (-1)]) ∧
 (x22 = false →
 ∀ (x26 : Bool),
 x26 = (tg == 2) →
 (x26 = true → ∀ (x29 : Bool), x29 = (n == 0) → (x29 = true → r = V.agg [.int .i64 4, .int .i64 (-1)]) ∧ (x29 = false → r = V.agg [.int .i64 2, .int .i64 (-1)])) ∧
 (x26 = false →
 ∀ (x34 : Bool),
 x34 = (tg == 6) →
 (x34 = true →
 ∀ (x37 : Bool),
 x37 = decide (n ≥ 0) →
 (x37 = true →
 List.length ms ≤ 9223372036854775807 →
 ∀ (x41 : Int),
 x41 = ↑(List.length ms) →
 ∀ (x43 : Bool),
 x43 = decide (n < x41) →
 (x43 = true → 0 ≤ n ∧ n < ↑(List.length ms) ∧ ∃ n46 b47 l48 s49 n50 l51, getV ms n = V.agg [.int .i64 n46, .agg [.bool b47, .list false l48], .str s49, .int .i64 n50, .list false l51] ∧ r = V.agg [.int .i64 (kOf n46 n50 (List.length l51)).1, .int .i64 (kOf n46 n50 (List.length l51)).2]) ∧
 (x43 = false → r = V.agg [.int .i64 0, .int .i64 (-1)])) ∧
 (x37 = false → r = V.agg [.int .i64 0, .int .i64 (-1)])) ∧
 (x34 = false → r = V.agg [.int .i64 0, .int .i64 (-1)])))))) := by kernel_rfl
theorem n77 (K N : Int) (nb : Bool) (l ks : List V) (q : List UInt8) (r : V) : wC Try.prog sp77 30 noHint (prsOf []) noLs 0 (bodyOf Try.f77) 1000 (initL [.agg [.int .i64 K, .agg [.bool nb, .list false l], .str q, .int .i64 N, .list false ks]] 0) [] (finK Try.prog none Try.f77.results.toList r) = (
 ∀ (x0 : Bool),
 x0 = (K == 5) →
 (x0 = true → List.length ks ≤ 9223372036854775807 → ∀ (x4 : Int), x4 = ↑(List.length ks) → r = V.agg [.int .i64 (Int.ofNat 16), .int .i64 (made 16 x4).2]) ∧
 (x0 = false →
 ∀ (x7 : Bool),
 x7 = (K == 9) →
 (x7 = true → r = V.agg [.int .i64 (Int.ofNat 256), .int .i64 (made 256 N).2]) ∧
 (x7 = false →
 ∀ (x11 : Bool),
 x11 = decide (K < 1) →
 (x11 = true → r = V.agg [.int .i64 (Int.ofNat 0), .int .i64 (Int.negSucc 0)]) ∧
 (x11 = false →
 ∀ (x15 : Bool),
 x15 = decide (K > 9) →
 (x15 = true → r = V.agg [.int .i64 (Int.ofNat 0), .int .i64 (Int.negSucc 0)]) ∧ (x15 = false → ∀ (x19 : Int), x19 = IntKind.wrap .i64 (K - 1) → 0 ≤ x19 ∧ (True → ∀ (x22 : Int), x22 = IntKind.wrap .i64 (1 * 2 ^ min (Int.toNat x19) 64) → r = V.agg [.int .i64 (made x22 (-1)).1, .int .i64 (made x22 (-1)).2])))))) := by kernel_rfl
end GoL
