/- A part of the proof: a logic for programs of this kind, proved sound over the model; contracts of functions; plain laws. -/
import Derived.Test.YtilnfaogokjhlaaG6D
set_option linter.all false
open Go Go.Proofs
namespace GoL
set_option linter.unusedVariables false
set_option maxRecDepth 100000
theorem n49 (r : V) : wC Try.prog sp49 2 noHint (prsOf []) noLs 0 (bodyOf Try.f49) 1000 (initL [] 0) [] (finK Try.prog none Try.f49.results.toList r) = (
 r = V.agg [.int .i64 0, .int .i64 (-1)]) := by kernel_rfl
theorem n14 (xs : List V) (r : V) : wC Try.prog sp14 6 noHint (prsOf []) noLs 0 (bodyOf Try.f14) 1000 (initL [.list false xs] 0) [] (finK Try.prog none Try.f14.results.toList r) = (
 (((true || false) = true ∧ True) ∧ (∀ (v0 : V), List.Mem v0 xs → V.sz v0 = 3) ∧ some 3 = some 3 ∧ true = true ∧ ∃ b2, some 40 = some b2 ∧ List.length xs * b2 ≤ 140737488355328 ∧ List.length xs ≤ 9223372036854775807) ∧ (True → List.length xs = List.length xs ∧ r = V.agg [.int .i64 7, .int .i64 0, .list false xs])) := by kernel_rfl
theorem nl25_0 (f : Nat → Int × Int) (n i : Int) (Nx Ex Rt : List V → List Blk → Prop) : wC Try.prog sp25 21 (hintOf [(5004, 66), (7004, 66)]) (prsOf []) noLs 0 (lcode Try.f25 0).2 1003 (List.zip [0, 2, 3, 4] [.int .i64 n, .ptr 1000 0 [], .ptr 1001 0 [], .int .i64 i]) (List.zip [1000, 1001] [⟨none, false, zS⟩, ⟨none, false, .agg [.agg (arrF 16 f), .bool false, .nils, .int .i64 0, .nils]⟩]) (endK ends25_0 Nx Ex Rt) = (
 ∀ (x0 : Bool),
 x0 = decide (i < 16) →
 (x0 = true →
 0 ≤ i ∧
 i < ↑16 ∧
 offQ
 (V.agg
 (arrF 16 f))
 [Int.toNat i] +
 0 =
 0 + Int.toNat i * 2 ∧
 (∃ u3,
 subQ
 (V.agg
 (arrF 16 f))
 [Int.toNat i] =
 some u3 ∧
 V.sz (V.agg [.int .i64 0, .int .i64 (-1)]) = V.sz u3) ∧
 ∃ f4 : Nat → Int × Int,
 V.agg
 (arrF 16 f4) =
 updQ (V.agg [.int .i64 0, .int .i64 (-1)])
 (V.agg
 (arrF 16 f))
 [Int.toNat i] ∧
 ∀ (x5 : Bool),
 x5 = decide (i < n) →
 (x5 = true →
 0 ≤ i ∧
 i < ↑16 ∧
 offQ
 (V.agg
 (arrF 16 f4))
 [Int.toNat i] +
 0 =
 0 + Int.toNat i * 2 ∧
 (∃ u8,
 subQ
 (V.agg
 (arrF 16 f4))
 [Int.toNat i] =
 some u8 ∧
 V.sz (V.agg [.int .i64 127, .int .i64 (-1)]) = V.sz u8) ∧
 ∃ f9 : Nat → Int × Int,
 V.agg
 (arrF 16 f9) =
 updQ (V.agg [.int .i64 127, .int .i64 (-1)])
 (V.agg
 (arrF 16 f4))
 [Int.toNat i] ∧
 ∀ (x10 : Int),
 x10 = IntKind.wrap .i64 (i + 1) →
 Nx [V.int .i64 n, V.ptr 1000 0 [], V.ptr 1001 0 [], V.int .i64 x10]
 [⟨none, false, V.agg
 [.agg
 (arrF 16 zF),
 .bool false, .nils, .int .i64 0, .nils]⟩,
 ⟨none, false, V.agg
 [.agg
 (arrF 16 f9),
 .bool false, .nils, .int .i64 0, .nils]⟩]) ∧
 (x5 = false →
 ∀ (x13 : Int),
 x13 = IntKind.wrap .i64 (i + 1) →
 Nx [V.int .i64 n, V.ptr 1000 0 [], V.ptr 1001 0 [], V.int .i64 x13]
 [⟨none, false, V.agg
 [.agg
 (arrF 16 zF),
 .bool false, .nils, .int .i64 0, .nils]⟩,
 ⟨none, false, V.agg
 [.agg
 (arrF 16 f4),
 .bool false, .nils, .int .i64 0, .nils]⟩])) ∧
 (x0 = false →
 Ex [V.ptr 1000 0 [], V.ptr 1001 0 []]
 [⟨none, false, V.agg
 [.agg
 (arrF 16 zF),
 .bool false, .nils, .int .i64 0, .nils]⟩,
 ⟨none, false, V.agg
 [.agg
 (arrF 16 f),
 .bool false, .nils, .int .i64 0, .nils]⟩])) := by kernel_rfl
theorem n25 (n : Int) (r : V) : wC Try.prog sp25 21 (hintOf [(5004, 66), (7004, 66)]) (prsOf []) ls25 0 (bodyOf Try.f25) 1000 (initL [.int .i64 n] 0) [] (finK Try.prog none Try.f25.results.toList r) = (
 Int.ofNat 0 = 0 ∧
 V.agg
 [.agg
 (arrF 16 zF),
 .bool false, .nils, .int .i64 0, .nils] =
 V.agg
 [.agg
 (arrF 16 zF),
 .bool false, .nils, .int .i64 0, .nils] ∧
 Int.ofNat 0 = 0 ∧
 (∃ f0 : Nat → Int × Int,
 (arrF 16 zF) =
 (arrF 16 f0)) ∧
 r =
 V.agg
 [.agg
 (arrF 16 (entF n)),
 .bool false, .list false [], .int .i64 0, .list false []]) := by kernel_rfl
theorem n11 (r : V) : wC Try.prog sp11 54 noHint (prsOf [(2, [[], [], [1], [1, 2], [3, 1, 2], [], [0, 4, 3, 1, 2, 5], [6, 0, 4, 3, 1, 2, 5], [7, 6, 0, 4, 3, 1, 2, 5], [7, 6, 0, 4, 3, 1, 2, 5], [7, 6, 0, 4, 3, 1, 2, 5], [7, 6, 0, 4, 3, 1, 2, 5], [], [12, 8, 7, 6, 0, 4, 3, 1, 2, 5], [9, 7, 6, 0, 4, 3, 1, 2, 5, 13, 12, 8], [10, 7, 6, 0, 4, 3, 1, 2, 5, 14, 9, 13, 12, 8], [11, 7, 6, 0, 4, 3, 1, 2, 5, 15, 10, 14, 9, 13, 12, 8]]), (4, [[], [], [], [0, 1, 2], [3, 0, 1, 2], [4, 3, 0, 1, 2], [4, 3, 0, 1, 2], [4, 3, 0, 1, 2], [4, 3, 0, 1, 2], [], [9, 5, 4, 3, 0, 1, 2], [6, 4, 3, 0, 1, 2, 10, 9, 5], [7, 4, 3, 0, 1, 2, 11, 6, 10, 9, 5], [8, 4, 3, 0, 1, 2, 12, 7, 11, 6, 10, 9, 5]])]) noLs 0 (bodyOf Try.f11) 1000 (initL [] 0) [] (finK Try.prog none Try.f11.results.toList r) = (
 ∀ (f0 : Nat → Int × Int),
 f0 = entF 1 →
 Int.ofNat 0 = 0 ∧
 ∃ f2 : Nat → Int × Int,
 (arrF 16 f0) =
 (arrF 16 f2) ∧
 ((∀ (v3 : V), List.Mem v3 [V.agg [.int .i64 3, .int .i64 0, .list false []], V.agg [.int .i64 3, .int .i64 3, .list false []]] → V.sz v3 = 3) ∧ List.length [V.agg [.int .i64 3, .int .i64 0, .list false []], V.agg [.int .i64 3, .int .i64 3, .list false []]] ≤ 1000) ∧
 ∃ f5 : Nat → Int × Int,
 (arrF 16 f2) =
 (arrF 16 f5) ∧
 (LitL [] ∧ (∀ (v6 : V), List.Mem v6 [] → ∃ a8 b9 c10, v6 = V.agg [.int .i64 a8, .int .i64 b9, .int .i64 c10]) ∧ (∀ (v11 : V), List.Mem v11 [] → ∃ a13 b14 c15, v11 = V.agg [.int .i64 a13, .int .i64 b14, .int .i64 c15]) ∧ 0 ≤ 1000000 ∧ 0 ≤ 1000000) ∧
 SOkS ⟨f5, false, [], 0, []⟩ ∧
 0 ≤ 900 ∧
 (∀ (u16 : V), List.Mem u16 [V.agg [.int .i64 3, .int .i64 0, .list false []], V.agg [.int .i64 3, .int .i64 3, .list false []]] → T28 u16) ∧
 ∀ (o18 : FS),
 o18 = effO ⟨[], [], [], [], [], []⟩ 4 [V.agg [.int .i64 3, .int .i64 0, .list false []], V.agg [.int .i64 3, .int .i64 3, .list false []]] ⟨f5, false, [], 0, []⟩ →
 ∀ (es20 : List V),
 es20 = effE ⟨[], [], [], [], [], []⟩ 4 [V.agg [.int .i64 3, .int .i64 0, .list false []], V.agg [.int .i64 3, .int .i64 3, .list false []]] ⟨f5, false, [], 0, []⟩ →
 ∀ (g22 : Bool),
 g22 = effG ⟨[], [], [], [], [], []⟩ 4 [V.agg [.int .i64 3, .int .i64 0, .list false []], V.agg [.int .i64 3, .int .i64 3, .list false []]] ⟨f5, false, [], 0, []⟩ →
 ∀ (ok24 : Bool),
 ok24 = effOk ⟨[], [], [], [], [], []⟩ 4 [V.agg [.int .i64 3, .int .i64 0, .list false []], V.agg [.int .i64 3, .int .i64 3, .list false []]] ⟨f5, false, [], 0, []⟩ →
 ((∀ (v26 : V), List.Mem v26 [] → V.sz v26 = 3) ∧ 0 ≤ 1000) ∧
 ∃ f28 : Nat → Int × Int,
 (arrF 16 f2) =
 (arrF 16 f28) ∧
 (LitL [] ∧ (∀ (v29 : V), List.Mem v29 [] → ∃ a31 b32 c33, v29 = V.agg [.int .i64 a31, .int .i64 b32, .int .i64 c33]) ∧ (∀ (v34 : V), List.Mem v34 [] → ∃ a36 b37 c38, v34 = V.agg [.int .i64 a36, .int .i64 b37, .int .i64 c38]) ∧ 0 ≤ 1000000 ∧ 0 ≤ 1000000) ∧
 SOkS ⟨f28, true, [], 0, []⟩ ∧
 0 ≤ 900 ∧
 (∀ (u39 : V), List.Mem u39 [] → T28 u39) ∧
 ∀ (o41 : FS),
 o41 = effO ⟨[], [], [], [], [], []⟩ 11 [] ⟨f28, true, [], 0, []⟩ →
 ∀ (es43 : List V),
 es43 = effE ⟨[], [], [], [], [], []⟩ 11 [] ⟨f28, true, [], 0, []⟩ →
 ∀ (g45 : Bool),
 g45 = effG ⟨[], [], [], [], [], []⟩ 11 [] ⟨f28, true, [], 0, []⟩ →
 ∀ (ok47 : Bool),
 ok47 = effOk ⟨[], [], [], [], [], []⟩ 11 [] ⟨f28, true, [], 0, []⟩ →
 (ok24 = true →
 (g22 = true →
 List.length es20 ≤ 9223372036854775807 →
 ∀ (x52 : Int), x52 = ↑(List.length es20) → ∀ (x54 : Bool), x54 = (x52 == 0) → (x54 = true → Int.ofNat 0 ≤ 3 ∧ (3 : Int) < ↑16 ∧ ∀ (x57 : Bool), x57 = ((FS.f o18 3).1 == 127) → (x57 = true → ∀ (x60 : Bool), x60 = !ok47 → r = V.bool x60) ∧ (x57 = false → r = V.bool false)) ∧ (x54 = false → r = V.bool false)) ∧
 (g22 = false → r = V.bool false)) ∧
 (ok24 = false → r = V.bool false)) := by kernel_rfl
theorem nl24_0 (f g : Nat → Int × Int) (i : Int) (Nx Ex Rt : List V → List Blk → Prop) : wC Try.prog sp24 58 (hintOf [(5014, 25), (5005, 3), (5010, 3)]) (prsOf [(1, [[], [0], [], [2], [], [4], [5, 4], [1, 0, 3, 2, 6, 5, 4], [], [8, 7, 1, 0, 3, 2, 6, 5, 4]]), (5, [[], [], [], [2, 1], [3, 2, 1], [4, 3, 2, 1], [], [], [7, 6], [8, 7, 6], [9, 8, 7, 6], [5, 4, 3, 2, 1, 10, 9, 8, 7, 6], [], [12, 0, 1, 2, 3, 4, 5, 6, 7, 8, 9, 10, 11], [13, 12, 0, 1, 2, 3, 4, 5, 6, 7, 8, 9, 10, 11]]), (9, [[], [0], [], [2], [], [3, 2, 4], [5, 3, 2, 4], [6, 5, 3, 2, 4], [], [8], [], [9, 8, 10], [11, 9, 8, 10], [12, 11, 9, 8, 10], [7, 6, 5, 3, 2, 4, 13, 12, 11, 9, 8, 10], [14, 7, 6, 5, 3, 2, 4, 13, 12, 11, 9, 8, 10], [1, 0, 15, 14, 7, 6, 5, 3, 2, 4, 13, 12, 11, 9, 8, 10], [0, 1, 2, 3, 4, 5, 6, 7, 8, 9, 10, 11, 12, 13, 14, 15, 16], [17, 0, 1, 2, 3, 4, 5, 6, 7, 8, 9, 10, 11, 12, 13, 14, 15, 16]])]) noLs 0 (lcode Try.f24 0).2 1013 (List.zip [1, 2, 3, 4] [.ptr 1000 0 [], .ptr 1001 0 [], .ptr 1010 0 [], .int .i64 i]) (List.zip [1000, 1001, 1008, 1010] [⟨none, false, .agg [.agg (arrF 16 f), .bool false, .list false [], .int .i64 0, .list false []]⟩, ⟨none, false, zS⟩, ⟨some 3, false, .agg []⟩, ⟨none, false, .agg [.agg (arrF 16 g), .bool false, .nils, .int .i64 0, .sl 1008 0]⟩]) (endK ends24_0 Nx Ex Rt) = (
 ∀ (x0 : Bool),
 x0 = decide (i < 16) →
 (x0 = true →
 0 ≤ i ∧
 i < ↑16 ∧
 ∃ n3,
 subQ
 (V.agg
 [.agg
 (arrF 16 f),
 .bool false, .list false [], .int .i64 0, .list false []])
 [0, Int.toNat i, 0] =
 some (V.int .i64 n3) ∧
 offQ
 (V.agg
 [.agg
 (arrF 16 f),
 .bool false, .list false [], .int .i64 0, .list false []])
 [0, Int.toNat i, 0] =
 0 + Int.toNat i * 2 + 0 ∧
 0 ≤ i ∧
 i < ↑16 ∧
 ∃ n4,
 subQ
 (V.agg
 [.agg
 (arrF 16 f),
 .bool false, .list false [], .int .i64 0, .list false []])
 [0, Int.toNat i, 1] =
 some (V.int .i64 n4) ∧
 offQ
 (V.agg
 [.agg
 (arrF 16 f),
 .bool false, .list false [], .int .i64 0, .list false []])
 [0, Int.toNat i, 1] =
 0 + Int.toNat i * 2 + 1 ∧
 0 ≤ i ∧
 i < ↑16 ∧
 offQ
 (V.agg
 (arrF 16 g))
 [Int.toNat i] +
 0 =
 0 + Int.toNat i * 2 ∧
 (∃ u5,
 subQ
 (V.agg
 (arrF 16 g))
 [Int.toNat i] =
 some u5 ∧
 V.sz (V.agg [.int .i64 n3, .int .i64 n4]) = V.sz u5) ∧
 ∃ f6 : Nat → Int × Int,
 V.agg
 (arrF 16 f6) =
 updQ (V.agg [.int .i64 n3, .int .i64 n4])
 (V.agg
 (arrF 16 g))
 [Int.toNat i] ∧
 ∀ (x7 : Int),
 x7 = IntKind.wrap .i64 (i + 1) →
 (∀ (v9 : V), List.Mem v9 [] → V.ids v9 = []) ∧
 Nx [V.ptr 1000 0 [], V.ptr 1001 0 [], V.ptr 1010 0 [], V.int .i64 x7]
 [⟨none, false, V.agg
 [.agg
 (arrF 16 f),
 .bool false, .list false [], .int .i64 0, .list false []]⟩,
 ⟨none, false, V.agg
 [.agg
 (arrF 16 zF),
 .bool false, .nils, .int .i64 0, .nils]⟩,
 ⟨some 3, false, V.agg []⟩,
 ⟨none, false, V.agg
 [.agg
 (arrF 16 f6),
 .bool false, .nils, .int .i64 0, .sl 1008 0]⟩]) ∧
 (x0 = false →
 (∀ (v12 : V), List.Mem v12 [] → V.ids v12 = []) ∧
 Ex [V.ptr 1000 0 [], V.ptr 1001 0 [], V.ptr 1010 0 []]
 [⟨none, false, V.agg
 [.agg
 (arrF 16 f),
 .bool false, .list false [], .int .i64 0, .list false []]⟩,
 ⟨none, false, V.agg
 [.agg
 (arrF 16 zF),
 .bool false, .nils, .int .i64 0, .nils]⟩,
 ⟨some 3, false, V.agg []⟩,
 ⟨none, false, V.agg
 [.agg
 (arrF 16 g),
 .bool false, .nils, .int .i64 0, .sl 1008 0]⟩])) := by kernel_rfl
theorem nl24_1 (f g : Nat → Int × Int) (i : Int) (Nx Ex Rt : List V → List Blk → Prop) : wC Try.prog sp24 58 noHint (prsOf [(1, [[], [0], [], [2], [], [4], [5, 4], [1, 0, 3, 2, 6, 5, 4], [], [8, 7, 1, 0, 3, 2, 6, 5, 4]]), (5, [[], [], [], [2, 1], [3, 2, 1], [4, 3, 2, 1], [], [], [7, 6], [8, 7, 6], [9, 8, 7, 6], [5, 4, 3, 2, 1, 10, 9, 8, 7, 6], [], [12, 0, 1, 2, 3, 4, 5, 6, 7, 8, 9, 10, 11], [13, 12, 0, 1, 2, 3, 4, 5, 6, 7, 8, 9, 10, 11]]), (9, [[], [0], [], [2], [], [3, 2, 4], [5, 3, 2, 4], [6, 5, 3, 2, 4], [], [8], [], [9, 8, 10], [11, 9, 8, 10], [12, 11, 9, 8, 10], [7, 6, 5, 3, 2, 4, 13, 12, 11, 9, 8, 10], [14, 7, 6, 5, 3, 2, 4, 13, 12, 11, 9, 8, 10], [1, 0, 15, 14, 7, 6, 5, 3, 2, 4, 13, 12, 11, 9, 8, 10], [0, 1, 2, 3, 4, 5, 6, 7, 8, 9, 10, 11, 12, 13, 14, 15, 16], [17, 0, 1, 2, 3, 4, 5, 6, 7, 8, 9, 10, 11, 12, 13, 14, 15, 16]])]) noLs 2 (lcode Try.f24 1).2 1014 (List.zip [1, 2, 3, 5] [.ptr 1000 0 [], .ptr 1001 0 [], .ptr 1010 0 [], .int .i64 i]) (List.zip [1000, 1001, 1008, 1010] [⟨none, false, .agg [.agg (arrF 16 f), .bool false, .list false [], .int .i64 0, .list false []]⟩, ⟨none, false, zS⟩, ⟨some 3, false, .agg []⟩, ⟨none, false, .agg [.agg (arrF 16 g), .bool false, .nils, .int .i64 0, .sl 1008 0]⟩]) (endK ends24_1 Nx Ex Rt) = (
 0 ≤ 9223372036854775807 →
 ∀ (x1 : Int),
 x1 = ↑0 →
 ∀ (x3 : Bool),
 x3 = decide (i < x1) →
 (x3 = true →
 0 ≤ i ∧
 i < ↑0 ∧
 ∃ n6 n7,
 V.junk = V.agg [.int .i64 n6, .int .i64 n7] ∧
 0 ≤ i ∧
 i < ↑0 ∧
 ∃ n8 n9,
 V.junk = V.agg [.int .i64 n8, .int .i64 n9] ∧
 (((true || false) = true ∧ True) ∧
 (∀ (v10 : V), List.Mem v10 [V.agg [.int .i64 n6, .int .i64 n9]] → V.sz v10 = 2) ∧ some 2 = some 2 ∧ true = true ∧ ∃ b12, some 16 = some b12 ∧ List.length [V.agg [.int .i64 n6, .int .i64 n9]] * b12 ≤ 140737488355328 ∧ List.length [V.agg [.int .i64 n6, .int .i64 n9]] ≤ 9223372036854775807) ∧
 ∀ (x13 : Int), x13 = IntKind.wrap .i64 (i + 1) → (∀ (v15 : V), List.Mem v15 [] → V.ids v15 = []) ∧ False) ∧
 (x3 = false →
 (∀ (v18 : V), List.Mem v18 [] → V.ids v18 = []) ∧
 Ex [V.ptr 1000 0 [], V.ptr 1001 0 [], V.ptr 1010 0 []]
 [⟨none, false, V.agg
 [.agg
 (arrF 16 f),
 .bool false, .list false [], .int .i64 0, .list false []]⟩,
 ⟨none, false, V.agg
 [.agg
 (arrF 16 zF),
 .bool false, .nils, .int .i64 0, .nils]⟩,
 ⟨some 3, false, V.agg []⟩,
 ⟨none, false, V.agg
 [.agg
 (arrF 16 g),
 .bool false, .nils, .int .i64 0, .sl 1008 0]⟩])) := by kernel_rfl
theorem n24 (f : Nat → Int × Int) (r : V) : wC Try.prog sp24 58 (hintOf [(5014, 25), (5005, 3), (5010, 3)]) (prsOf [(1, [[], [0], [], [2], [], [4], [5, 4], [1, 0, 3, 2, 6, 5, 4], [], [8, 7, 1, 0, 3, 2, 6, 5, 4]]), (5, [[], [], [], [2, 1], [3, 2, 1], [4, 3, 2, 1], [], [], [7, 6], [8, 7, 6], [9, 8, 7, 6], [5, 4, 3, 2, 1, 10, 9, 8, 7, 6], [], [12, 0, 1, 2, 3, 4, 5, 6, 7, 8, 9, 10, 11], [13, 12, 0, 1, 2, 3, 4, 5, 6, 7, 8, 9, 10, 11]]), (9, [[], [0], [], [2], [], [3, 2, 4], [5, 3, 2, 4], [6, 5, 3, 2, 4], [], [8], [], [9, 8, 10], [11, 9, 8, 10], [12, 11, 9, 8, 10], [7, 6, 5, 3, 2, 4, 13, 12, 11, 9, 8, 10], [14, 7, 6, 5, 3, 2, 4, 13, 12, 11, 9, 8, 10], [1, 0, 15, 14, 7, 6, 5, 3, 2, 4, 13, 12, 11, 9, 8, 10], [0, 1, 2, 3, 4, 5, 6, 7, 8, 9, 10, 11, 12, 13, 14, 15, 16], [17, 0, 1, 2, 3, 4, 5, 6, 7, 8, 9, 10, 11, 12, 13, 14, 15, 16]])]) ls24 0 (bodyOf Try.f24) 1000 (initL [.agg [.agg (arrF 16 f), .bool false, .list false [], .int .i64 0, .list false []]] 0) [] (finK Try.prog none Try.f24.results.toList r) = (
 (((true || false) = true ∧ True) ∧ (∀ (v0 : V), List.Mem v0 [] → V.sz v0 = 1) ∧ some 1 = some 1 ∧ true = true ∧ ∃ b2, some 8 = some b2 ∧ List.length ([] : List V) * b2 ≤ 140737488355328 ∧ List.length ([] : List V) ≤ 9223372036854775807) ∧
 (∀ (v3 : V), List.Mem v3 [] → V.ids v3 = []) ∧
 Int.ofNat 0 = 0 ∧
 V.agg
 [.agg
 (arrF 16 zF),
 .bool false, .nils, .int .i64 0, .nils] =
 V.agg
 [.agg
 (arrF 16 zF),
 .bool false, .nils, .int .i64 0, .nils] ∧
 Int.ofNat 0 = 0 ∧
 Int.ofNat 0 = 0 ∧
 (∃ g5 : Nat → Int × Int,
 (arrF 16 zF) =
 (arrF 16 g5)) ∧
 ∃ f6 : Nat → Int × Int,
 (arrF 16 f) =
 (arrF 16 f6) ∧
 (∀ (v7 : V), List.Mem v7 [] → V.ids v7 = []) ∧
 Int.ofNat 0 = 0 ∧
 V.agg
 [.agg
 (arrF 16 zF),
 .bool false, .nils, .int .i64 0, .nils] =
 V.agg
 [.agg
 (arrF 16 zF),
 .bool false, .nils, .int .i64 0, .nils] ∧
 Int.ofNat 0 = 0 ∧
 Int.ofNat 0 = 0 ∧
 ∃ g9 : Nat → Int × Int,
 (arrF 16 f6) =
 (arrF 16 g9) ∧
 ∃ f10 : Nat → Int × Int,
 (arrF 16 f6) =
 (arrF 16 f10) ∧
 0 = 0 ∧
 r =
 V.agg
 [.agg
 (arrF 16 f10),
 .bool false, .list false [], .int .i64 0, .list false []]) := by kernel_rfl
end GoL
