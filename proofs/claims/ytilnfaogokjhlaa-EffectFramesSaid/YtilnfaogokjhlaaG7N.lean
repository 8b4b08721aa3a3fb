/- A part of the proof: a logic for programs of this kind, proved sound over the model; contracts of functions; plain laws. -/
import Derived.Test.YtilnfaogokjhlaaG7D
set_option linter.all false
open Go Go.Proofs
namespace GoL
set_option linter.unusedVariables false
set_option maxRecDepth 100000
theorem nl3_0 (many i rm : Int) (f : Nat → Int × Int) (Nx Ex Rt : List V → List Blk → Prop) : wC Try.prog sp3 146 noHint (prsOf [(10, [[], [], [1], [2, 1], [1, 2, 3], [4, 1, 2, 3], [], [0, 5, 4, 1, 2, 3, 6], [7, 0, 5, 4, 1, 2, 3, 6], [8, 7, 0, 5, 4, 1, 2, 3, 6], [8, 7, 0, 5, 4, 1, 2, 3, 6], [8, 7, 0, 5, 4, 1, 2, 3, 6], [8, 7, 0, 5, 4, 1, 2, 3, 6], [], [13, 9, 8, 7, 0, 5, 4, 1, 2, 3, 6], [10, 8, 7, 0, 5, 4, 1, 2, 3, 6, 14, 13, 9], [11, 8, 7, 0, 5, 4, 1, 2, 3, 6, 15, 10, 14, 13, 9], [12, 8, 7, 0, 5, 4, 1, 2, 3, 6, 16, 11, 15, 10, 14, 13, 9]]), (17, [[], [], [1], [1, 2], [3, 1, 2], [4, 3, 1, 2], [4, 3, 1, 2, 5], [6, 4, 3, 1, 2, 5], [], [0, 7, 6, 4, 3, 1, 2, 5, 8], [9, 0, 7, 6, 4, 3, 1, 2, 5, 8], [10, 9, 0, 7, 6, 4, 3, 1, 2, 5, 8], [10, 9, 0, 7, 6, 4, 3, 1, 2, 5, 8], [10, 9, 0, 7, 6, 4, 3, 1, 2, 5, 8], [10, 9, 0, 7, 6, 4, 3, 1, 2, 5, 8], [], [15, 11, 10, 9, 0, 7, 6, 4, 3, 1, 2, 5, 8], [12, 10, 9, 0, 7, 6, 4, 3, 1, 2, 5, 8, 16, 15, 11], [13, 10, 9, 0, 7, 6, 4, 3, 1, 2, 5, 8, 17, 12, 16, 15, 11], [14, 10, 9, 0, 7, 6, 4, 3, 1, 2, 5, 8, 18, 13, 17, 12, 16, 15, 11]])]) noLs 0 (lcode Try.f3 0).2 1040 (List.zip [6, 7, 11] [.int .i64 many, .ptr 1020 0 [], .int .i64 i]) (List.zip [1020] [⟨none, false, .agg [.agg (arrF 16 f), .bool false, .list false [], .int .i64 rm, .list false []]⟩]) (endK ends3_0 Nx Ex Rt) = (
 ∀ (x0 : Bool),
 x0 = decide (i < many) →
 (x0 = true →
 ((∀ (v3 : V), List.Mem v3 [V.agg [.int .i64 3, .int .i64 0, .list false []], V.agg [.int .i64 2, .int .i64 0, .list false []], V.agg [.int .i64 3, .int .i64 1, .list false []]] → V.sz v3 = 3) ∧
 List.length [V.agg [.int .i64 3, .int .i64 0, .list false []], V.agg [.int .i64 2, .int .i64 0, .list false []], V.agg [.int .i64 3, .int .i64 1, .list false []]] ≤ 1000) ∧
 ∃ f5 : Nat → Int × Int,
 (arrF 16 f) =
 (arrF 16 f5) ∧
 (LitL [] ∧ (∀ (v6 : V), List.Mem v6 [] → ∃ a8 b9 c10, v6 = V.agg [.int .i64 a8, .int .i64 b9, .int .i64 c10]) ∧ (∀ (v11 : V), List.Mem v11 [] → ∃ a13 b14 c15, v11 = V.agg [.int .i64 a13, .int .i64 b14, .int .i64 c15]) ∧ 0 ≤ 1000000 ∧ 0 ≤ 1000000) ∧
 SOkS ⟨f5, false, [], rm, []⟩ ∧
 0 ≤ 900 ∧
 (∀ (u16 : V), List.Mem u16 [V.agg [.int .i64 3, .int .i64 0, .list false []], V.agg [.int .i64 2, .int .i64 0, .list false []], V.agg [.int .i64 3, .int .i64 1, .list false []]] → T28 u16) ∧
 ∀ (o18 : FS),
 o18 = effO ⟨[], [], [], [], [], []⟩ 17 [V.agg [.int .i64 3, .int .i64 0, .list false []], V.agg [.int .i64 2, .int .i64 0, .list false []], V.agg [.int .i64 3, .int .i64 1, .list false []]] ⟨f5, false, [], rm, []⟩ →
 ∀ (es20 : List V),
 es20 = effE ⟨[], [], [], [], [], []⟩ 17 [V.agg [.int .i64 3, .int .i64 0, .list false []], V.agg [.int .i64 2, .int .i64 0, .list false []], V.agg [.int .i64 3, .int .i64 1, .list false []]] ⟨f5, false, [], rm, []⟩ →
 ∀ (g22 : Bool),
 g22 = effG ⟨[], [], [], [], [], []⟩ 17 [V.agg [.int .i64 3, .int .i64 0, .list false []], V.agg [.int .i64 2, .int .i64 0, .list false []], V.agg [.int .i64 3, .int .i64 1, .list false []]] ⟨f5, false, [], rm, []⟩ →
 ∀ (ok24 : Bool),
 ok24 = effOk ⟨[], [], [], [], [], []⟩ 17 [V.agg [.int .i64 3, .int .i64 0, .list false []], V.agg [.int .i64 2, .int .i64 0, .list false []], V.agg [.int .i64 3, .int .i64 1, .list false []]] ⟨f5, false, [], rm, []⟩ →
 ∀ (x26 : Bool),
 x26 = decide (rm ≥ 2) →
 ∀ (x28 : Bool),
 x28 = (ok24 != x26) →
 (x28 = true → Rt [V.gd true (V.bool false)] []) ∧
 (x28 = false →
 ∀ (x32 : Bool),
 x32 = (g22 != ok24) →
 (x32 = true → Rt [V.gd true (V.bool false)] []) ∧
 (x32 = false →
 ∀ (x36 : Bool),
 x36 = !ok24 →
 (x36 = true →
 Ex [V.ptr 1020 0 []]
 [⟨none, false, V.agg
 [.agg
 (arrF 16 f),
 .bool false, .list false [], .int .i64 rm, .list false []]⟩]) ∧
 (x36 = false →
 ∀ (x40 : Int),
 x40 = IntKind.wrap .i64 (rm - 2) →
 ∀ (x42 : Bool),
 x42 = (o18.4 != x40) →
 (x42 = true → Rt [V.gd true (V.bool false)] []) ∧
 (x42 = false →
 Int.ofNat 0 ≤ 1 ∧
 (1 : Int) < ↑16 ∧
 ∀ (x46 : Bool),
 x46 = ((FS.f o18 1).1 != 8) →
 (x46 = true → Rt [V.gd true (V.bool false)] []) ∧
 (x46 = false →
 ∀ (x50 : Int),
 x50 = IntKind.wrap .i64 (i + 1) →
 Nx [V.int .i64 many, V.ptr 1020 0 [], V.int .i64 x50]
 [⟨none, false, V.agg
 [.agg
 (arrF 16 (FS.f o18)),
 .bool o18.2, .list false o18.3, .int .i64 o18.4, .list false o18.5]⟩])))))) ∧
 (x0 = false →
 Ex [V.ptr 1020 0 []]
 [⟨none, false, V.agg
 [.agg
 (arrF 16 f),
 .bool false, .list false [], .int .i64 rm, .list false []]⟩])) := by kernel_rfl
theorem n3 (n k : Int) (r : V) : wC Try.prog sp3 146 noHint (prsOf [(10, [[], [], [1], [2, 1], [1, 2, 3], [4, 1, 2, 3], [], [0, 5, 4, 1, 2, 3, 6], [7, 0, 5, 4, 1, 2, 3, 6], [8, 7, 0, 5, 4, 1, 2, 3, 6], [8, 7, 0, 5, 4, 1, 2, 3, 6], [8, 7, 0, 5, 4, 1, 2, 3, 6], [8, 7, 0, 5, 4, 1, 2, 3, 6], [], [13, 9, 8, 7, 0, 5, 4, 1, 2, 3, 6], [10, 8, 7, 0, 5, 4, 1, 2, 3, 6, 14, 13, 9], [11, 8, 7, 0, 5, 4, 1, 2, 3, 6, 15, 10, 14, 13, 9], [12, 8, 7, 0, 5, 4, 1, 2, 3, 6, 16, 11, 15, 10, 14, 13, 9]]), (17, [[], [], [1], [1, 2], [3, 1, 2], [4, 3, 1, 2], [4, 3, 1, 2, 5], [6, 4, 3, 1, 2, 5], [], [0, 7, 6, 4, 3, 1, 2, 5, 8], [9, 0, 7, 6, 4, 3, 1, 2, 5, 8], [10, 9, 0, 7, 6, 4, 3, 1, 2, 5, 8], [10, 9, 0, 7, 6, 4, 3, 1, 2, 5, 8], [10, 9, 0, 7, 6, 4, 3, 1, 2, 5, 8], [10, 9, 0, 7, 6, 4, 3, 1, 2, 5, 8], [], [15, 11, 10, 9, 0, 7, 6, 4, 3, 1, 2, 5, 8], [12, 10, 9, 0, 7, 6, 4, 3, 1, 2, 5, 8, 16, 15, 11], [13, 10, 9, 0, 7, 6, 4, 3, 1, 2, 5, 8, 17, 12, 16, 15, 11], [14, 10, 9, 0, 7, 6, 4, 3, 1, 2, 5, 8, 18, 13, 17, 12, 16, 15, 11]])]) ls3 0 (bodyOf Try.f3) 1000 (initL [.int .i64 n, .int .i64 k] 0) [] (finK Try.prog none Try.f3.results.toList r) = (
 Int.ofNat 103 ≠ 0 ∧
 Int.ofNat 20 ≠ 0 ∧
 ((∀ (v0 : V), List.Mem v0 [V.agg [.int .i64 0, .int .i64 (place n 103), .list false []], V.agg [.int .i64 0, .int .i64 1, .list false []]] → V.sz v0 = 3) ∧ List.length [V.agg [.int .i64 0, .int .i64 (place n 103), .list false []], V.agg [.int .i64 0, .int .i64 1, .list false []]] ≤ 1000) ∧
 ∀ (f2 : Nat → Int × Int),
 f2 = entF 1 →
 ∃ f4 : Nat → Int × Int,
 (arrF 16 f2) =
 (arrF 16 f4) ∧
 (LitL [] ∧ (∀ (v5 : V), List.Mem v5 [] → ∃ a7 b8 c9, v5 = V.agg [.int .i64 a7, .int .i64 b8, .int .i64 c9]) ∧ (∀ (v10 : V), List.Mem v10 [] → ∃ a12 b13 c14, v10 = V.agg [.int .i64 a12, .int .i64 b13, .int .i64 c14]) ∧ 0 ≤ 1000000 ∧ 0 ≤ 1000000) ∧
 SOkS ⟨f4, false, [], 0, []⟩ ∧
 0 ≤ 900 ∧
 (∀ (u15 : V), List.Mem u15 [V.agg [.int .i64 0, .int .i64 (place n 103), .list false []], V.agg [.int .i64 0, .int .i64 1, .list false []]] → T28 u15) ∧
 ∀ (o17 : FS),
 o17 = effO ⟨[], [], [], [], [], []⟩ 16 [V.agg [.int .i64 0, .int .i64 (place n 103), .list false []], V.agg [.int .i64 0, .int .i64 1, .list false []]] ⟨f4, false, [], 0, []⟩ →
 ∀ (es19 : List V),
 es19 = effE ⟨[], [], [], [], [], []⟩ 16 [V.agg [.int .i64 0, .int .i64 (place n 103), .list false []], V.agg [.int .i64 0, .int .i64 1, .list false []]] ⟨f4, false, [], 0, []⟩ →
 ∀ (g21 : Bool),
 g21 = effG ⟨[], [], [], [], [], []⟩ 16 [V.agg [.int .i64 0, .int .i64 (place n 103), .list false []], V.agg [.int .i64 0, .int .i64 1, .list false []]] ⟨f4, false, [], 0, []⟩ →
 ∀ (ok23 : Bool),
 ok23 = effOk ⟨[], [], [], [], [], []⟩ 16 [V.agg [.int .i64 0, .int .i64 (place n 103), .list false []], V.agg [.int .i64 0, .int .i64 1, .list false []]] ⟨f4, false, [], 0, []⟩ →
 ∀ (x25 : Bool),
 x25 = decide (place n 103 > 100) →
 (x25 = true → ∀ (x28 : Bool), x28 = !ok23 → (x28 = true → ∀ (x31 : Bool), x31 = !g21 → (x31 = true → r = V.bool true) ∧ (x31 = false → r = V.bool false)) ∧ (x28 = false → r = V.bool false)) ∧
 (x25 = false →
 ∀ (x37 : Bool),
 x37 = !ok23 →
 (x37 = true → r = V.bool false) ∧
 (x37 = false →
 ∀ (x41 : Bool),
 x41 = !g21 →
 (x41 = true → r = V.bool false) ∧
 (x41 = false →
 ∀ (x45 : Bool),
 x45 = (o17.4 != place n 103) →
 (x45 = true → r = V.bool false) ∧
 (x45 = false →
 Int.ofNat 0 = 0 ∧
 o17.2 = false ∧
 o17.3 = [] ∧
 o17.5 = [] ∧
 0 ≤ o17.4 ∧
 o17.4 ≤ 100 ∧
 place k 20 ≤ 20 ∧
 ∃ f49 : Nat → Int × Int,
 (arrF 16 (FS.f o17)) =
 (arrF 16 f49) ∧
 f49 0 = (127, -1) ∧
 ∀ (g50 : Nat → Int × Int) (q51 : Int),
 g50 0 = (127, -1) →
 0 ≤ q51 →
 q51 ≤ 100 →
 (∀ (v55 : V), List.Mem v55 [V.agg [.int .i64 3, .int .i64 0, .list false []], V.agg [.int .i64 3, .int .i64 0, .list false []]] → V.sz v55 = 3) ∧
 List.length [V.agg [.int .i64 3, .int .i64 0, .list false []], V.agg [.int .i64 3, .int .i64 0, .list false []]] ≤ 1000 ∧
 ((∀ (v57 : V),
 List.Mem v57 [V.agg [.int .i64 7, .int .i64 0, .list false [.agg [.int .i64 3, .int .i64 0, .list false []], .agg [.int .i64 3, .int .i64 0, .list false []]]], V.agg [.int .i64 3, .int .i64 2, .list false []]] →
 V.sz v57 = 3) ∧
 List.length [V.agg [.int .i64 7, .int .i64 0, .list false [.agg [.int .i64 3, .int .i64 0, .list false []], .agg [.int .i64 3, .int .i64 0, .list false []]]], V.agg [.int .i64 3, .int .i64 2, .list false []]] ≤ 1000) ∧
 ∃ f59 : Nat → Int × Int,
 (arrF 16 g50) =
 (arrF 16 f59) ∧
 (LitL [] ∧
 (∀ (v60 : V), List.Mem v60 [] → ∃ a62 b63 c64, v60 = V.agg [.int .i64 a62, .int .i64 b63, .int .i64 c64]) ∧
 (∀ (v65 : V), List.Mem v65 [] → ∃ a67 b68 c69, v65 = V.agg [.int .i64 a67, .int .i64 b68, .int .i64 c69]) ∧ 0 ≤ 1000000 ∧ 0 ≤ 1000000) ∧
 SOkS ⟨f59, false, [], q51, []⟩ ∧
 0 ≤ 900 ∧
 (∀ (u70 : V),
 List.Mem u70 [V.agg [.int .i64 7, .int .i64 0, .list false [.agg [.int .i64 3, .int .i64 0, .list false []], .agg [.int .i64 3, .int .i64 0, .list false []]]], V.agg [.int .i64 3, .int .i64 2, .list false []]] →
 T28 u70) ∧
 ∀ (o72 : FS),
 o72 =
 effO ⟨[], [], [], [], [], []⟩ 18
 [V.agg [.int .i64 7, .int .i64 0, .list false [.agg [.int .i64 3, .int .i64 0, .list false []], .agg [.int .i64 3, .int .i64 0, .list false []]]], V.agg [.int .i64 3, .int .i64 2, .list false []]]
 ⟨f59, false, [], q51, []⟩ →
 ∀ (es74 : List V),
 es74 =
 effE ⟨[], [], [], [], [], []⟩ 18
 [V.agg [.int .i64 7, .int .i64 0, .list false [.agg [.int .i64 3, .int .i64 0, .list false []], .agg [.int .i64 3, .int .i64 0, .list false []]]], V.agg [.int .i64 3, .int .i64 2, .list false []]]
 ⟨f59, false, [], q51, []⟩ →
 ∀ (g76 : Bool),
 g76 =
 effG ⟨[], [], [], [], [], []⟩ 18
 [V.agg [.int .i64 7, .int .i64 0, .list false [.agg [.int .i64 3, .int .i64 0, .list false []], .agg [.int .i64 3, .int .i64 0, .list false []]]], V.agg [.int .i64 3, .int .i64 2, .list false []]]
 ⟨f59, false, [], q51, []⟩ →
 ∀ (ok78 : Bool),
 ok78 =
 effOk ⟨[], [], [], [], [], []⟩ 18
 [V.agg [.int .i64 7, .int .i64 0, .list false [.agg [.int .i64 3, .int .i64 0, .list false []], .agg [.int .i64 3, .int .i64 0, .list false []]]],
 V.agg [.int .i64 3, .int .i64 2, .list false []]]
 ⟨f59, false, [], q51, []⟩ →
 ∀ (x80 : Bool),
 x80 = decide (q51 ≥ 3) →
 ∀ (x82 : Bool),
 x82 = (ok78 == x80) →
 (x82 = true →
 ∀ (x85 : Bool),
 x85 = !ok78 →
 (x85 = true → (true = true → r = V.bool true) ∧ (true = false → r = V.bool false)) ∧
 (x85 = false →
 Int.ofNat 0 ≤ 2 ∧
 (2 : Int) < ↑16 ∧
 StructEq Try.prog 24 ∧
 (True →
 ∀ (x92 : Bool),
 x92 = ((FS.f o72 2).1 == 16 && (FS.f o72 2).2 == 2) →
 (x92 = true → ∀ (x95 : Int), x95 = IntKind.wrap .i64 (q51 - 3) → ∀ (x97 : Bool), x97 = (o72.4 == x95) → (x97 = true → r = V.bool true) ∧ (x97 = false → r = V.bool false)) ∧
 (x92 = false → (false = true → r = V.bool true) ∧ (false = false → r = V.bool false))))) ∧
 (x82 = false → r = V.bool false)))))) := by kernel_rfl
theorem n5 (n k : Int) (r : V) : wC Try.prog sp5 113 (hintOf [(4003, 25)]) (prsOf [(5, [[], [], [1], [], [3], [3, 4], [2, 1, 5, 3, 4], [], [0, 6, 2, 1, 5, 3, 4, 7], [8, 0, 6, 2, 1, 5, 3, 4, 7], [9, 8, 0, 6, 2, 1, 5, 3, 4, 7], [9, 8, 0, 6, 2, 1, 5, 3, 4, 7], [9, 8, 0, 6, 2, 1, 5, 3, 4, 7], [9, 8, 0, 6, 2, 1, 5, 3, 4, 7], [], [14, 10, 9, 8, 0, 6, 2, 1, 5, 3, 4, 7], [11, 9, 8, 0, 6, 2, 1, 5, 3, 4, 7, 15, 14, 10], [12, 9, 8, 0, 6, 2, 1, 5, 3, 4, 7, 16, 11, 15, 14, 10], [13, 9, 8, 0, 6, 2, 1, 5, 3, 4, 7, 17, 12, 16, 11, 15, 14, 10]]), (13, [[], [0], [1, 0], [2, 1, 0], [3, 2, 1, 0], [4, 3, 2, 1, 0], [5, 4, 3, 2, 1, 0], [6, 5, 4, 3, 2, 1, 0], [7, 6, 5, 4, 3, 2, 1, 0], [8, 7, 6, 5, 4, 3, 2, 1, 0], [9, 8, 7, 6, 5, 4, 3, 2, 1, 0], [10, 9, 8, 7, 6, 5, 4, 3, 2, 1, 0], [11, 10, 9, 8, 7, 6, 5, 4, 3, 2, 1, 0], [12, 11, 10, 9, 8, 7, 6, 5, 4, 3, 2, 1, 0], [13, 12, 11, 10, 9, 8, 7, 6, 5, 4, 3, 2, 1, 0], [14, 13, 12, 11, 10, 9, 8, 7, 6, 5, 4, 3, 2, 1, 0], [15, 14, 13, 12, 11, 10, 9, 8, 7, 6, 5, 4, 3, 2, 1, 0], [9, 8, 7, 6, 5, 4, 3, 2, 1, 0], [17, 9, 8, 7, 6, 5, 4, 3, 2, 1, 0], [9, 8, 7, 6, 5, 4, 3, 2, 1, 0], [18, 17, 9, 8, 7, 6, 5, 4, 3, 2, 1, 0, 19], [16, 15, 14, 13, 12, 11, 10, 9, 8, 7, 6, 5, 4, 3, 2, 1, 0, 20, 18, 17, 19], [9, 8, 7, 6, 5, 4, 3, 2, 1, 0, 21, 16, 15, 14, 13, 12, 11, 10, 20, 18, 17, 19], [3, 2, 1, 0, 22, 9, 8, 7, 6, 5, 4, 21, 16, 15, 14, 13, 12, 11, 10, 20, 18, 17, 19], [23, 3, 2, 1, 0, 22, 9, 8, 7, 6, 5, 4, 21, 16, 15, 14, 13, 12, 11, 10, 20, 18, 17, 19], [24, 23, 3, 2, 1, 0, 22, 9, 8, 7, 6, 5, 4, 21, 16, 15, 14, 13, 12, 11, 10, 20, 18, 17, 19], [24, 23, 3, 2, 1, 0, 22, 9, 8, 7, 6, 5, 4, 21, 16, 15, 14, 13, 12, 11, 10, 20, 18, 17, 19, 25], [26, 24, 23, 3, 2, 1, 0, 22, 9, 8, 7, 6, 5, 4, 21, 16, 15, 14, 13, 12, 11, 10, 20, 18, 17, 19, 25]])]) noLs 0 (bodyOf Try.f5) 1000 (initL [.int .i64 n, .int .i64 k] 0) [] (finK Try.prog none Try.f5.results.toList r) = (
 Int.ofNat 7 ≠ 0 ∧
 Int.ofNat 128 ≠ 0 ∧
 ∀ (f0 : Nat → Int × Int),
 f0 = entF 1 →
 Int.ofNat 0 ≤ 0 ∧
 (0 : Int) < ↑16 ∧
 offQ
 (V.agg
 (arrF 16 f0))
 [0] +
 0 =
 0 ∧
 (∃ u2, some (V.agg [.int .i64 (f0 0).1, .int .i64 (f0 0).2]) = some u2 ∧ V.sz (V.agg [.int .i64 (place k 128), .int .i64 (-1)]) = V.sz u2) ∧
 ∃ f3 : Nat → Int × Int,
 V.agg
 (arrF 16 f3) =
 V.agg
 [.agg [.int .i64 (place k 128), .int .i64 (-1)], .agg [.int .i64 (f0 1).1, .int .i64 (f0 1).2], .agg [.int .i64 (f0 2).1, .int .i64 (f0 2).2], .agg [.int .i64 (f0 3).1, .int .i64 (f0 3).2], .agg [.int .i64 (f0 4).1, .int .i64 (f0 4).2],
 .agg [.int .i64 (f0 5).1, .int .i64 (f0 5).2], .agg [.int .i64 (f0 6).1, .int .i64 (f0 6).2], .agg [.int .i64 (f0 7).1, .int .i64 (f0 7).2], .agg [.int .i64 (f0 8).1, .int .i64 (f0 8).2], .agg [.int .i64 (f0 9).1, .int .i64 (f0 9).2],
 .agg [.int .i64 (f0 10).1, .int .i64 (f0 10).2], .agg [.int .i64 (f0 11).1, .int .i64 (f0 11).2], .agg [.int .i64 (f0 12).1, .int .i64 (f0 12).2], .agg [.int .i64 (f0 13).1, .int .i64 (f0 13).2], .agg [.int .i64 (f0 14).1, .int .i64 (f0 14).2],
 .agg [.int .i64 (f0 15).1, .int .i64 (f0 15).2]] ∧
 ∀ (x4 : Int),
 x4 = IntKind.wrap .i64 (21 + place n 7) →
 ((∀ (v6 : V), List.Mem v6 [V.agg [.int .i64 5, .int .i64 9, .list false []], V.agg [.int .i64 3, .int .i64 0, .list false []]] → V.sz v6 = 3) ∧ List.length [V.agg [.int .i64 5, .int .i64 9, .list false []], V.agg [.int .i64 3, .int .i64 0, .list false []]] ≤ 1000) ∧
 ∃ f8 : Nat → Int × Int,
 (arrF 16 f3) =
 (arrF 16 f8) ∧
 (LitL [] ∧ (∀ (v9 : V), List.Mem v9 [] → ∃ a11 b12 c13, v9 = V.agg [.int .i64 a11, .int .i64 b12, .int .i64 c13]) ∧ (∀ (v14 : V), List.Mem v14 [] → ∃ a16 b17 c18, v14 = V.agg [.int .i64 a16, .int .i64 b17, .int .i64 c18]) ∧ 0 ≤ 1000000 ∧ 0 ≤ 1000000) ∧
 SOkS ⟨f8, false, [], 0, []⟩ ∧
 0 ≤ 900 ∧
 (∀ (u19 : V), List.Mem u19 [V.agg [.int .i64 5, .int .i64 9, .list false []], V.agg [.int .i64 3, .int .i64 0, .list false []]] → T28 u19) ∧
 ∀ (o21 : FS),
 o21 = effO ⟨[], [], [], [], [], []⟩ x4 [V.agg [.int .i64 5, .int .i64 9, .list false []], V.agg [.int .i64 3, .int .i64 0, .list false []]] ⟨f8, false, [], 0, []⟩ →
 ∀ (es23 : List V),
 es23 = effE ⟨[], [], [], [], [], []⟩ x4 [V.agg [.int .i64 5, .int .i64 9, .list false []], V.agg [.int .i64 3, .int .i64 0, .list false []]] ⟨f8, false, [], 0, []⟩ →
 ∀ (g25 : Bool),
 g25 = effG ⟨[], [], [], [], [], []⟩ x4 [V.agg [.int .i64 5, .int .i64 9, .list false []], V.agg [.int .i64 3, .int .i64 0, .list false []]] ⟨f8, false, [], 0, []⟩ →
 ∀ (ok27 : Bool),
 ok27 = effOk ⟨[], [], [], [], [], []⟩ x4 [V.agg [.int .i64 5, .int .i64 9, .list false []], V.agg [.int .i64 3, .int .i64 0, .list false []]] ⟨f8, false, [], 0, []⟩ →
 true = true ∧
 (True →
 ∀ (x30 : Int),
 x30 = IntKind.wrap .u64 (place n 7) →
 0 ≤ x30 ∧
 (True →
 ∀ (x33 : Int),
 x33 = IntKind.wrap .i64 (1 * 2 ^ min (Int.toNat x30) 64) →
 ∀ (x35 : Bool),
 x35 = (place k 128 == 0) →
 (x35 = true → ∀ (x38 : Bool), x38 = !ok27 → (x38 = true → r = V.bool true) ∧ (x38 = false → r = V.bool false)) ∧
 (x35 = false →
 ∀ (x43 : Bool),
 x43 = !ok27 →
 (x43 = true → r = V.bool false) ∧
 (x43 = false →
 ∀ (x47 : Int),
 x47 = bits .and .i64 (place k 128) x33 →
 ∀ (x49 : Bool),
 x49 = (x47 != 0) →
 ∀ (x51 : Bool),
 x51 = (g25 != x49) →
 (x51 = true → r = V.bool false) ∧
 (x51 = false →
 List.length es23 ≤ 9223372036854775807 →
 ∀ (x56 : Int),
 x56 = ↑(List.length es23) →
 ∀ (x58 : Bool),
 x58 = (x56 == 1) →
 ∀ (x60 : Int),
 x60 = bits .andNot .i64 (place k 128) x33 →
 ∀ (x62 : Bool),
 x62 = (x60 != 0) →
 ∀ (x64 : Bool),
 x64 = (x58 != x62) →
 (x64 = true → r = V.bool false) ∧
 (x64 = false →
 List.length es23 ≤ 9223372036854775807 →
 ∀ (x69 : Int),
 x69 = ↑(List.length es23) →
 ∀ (x71 : Bool),
 x71 = decide (x69 > 1) →
 (x71 = true → r = V.bool false) ∧
 (x71 = false →
 (g25 = true →
 Int.ofNat 0 ≤ 0 ∧
 (0 : Int) < ↑16 ∧
 ∀ (x76 : Bool),
 x76 = ((FS.f o21 0).1 != x33) →
 (x76 = true → r = V.bool false) ∧
 (x76 = false →
 ∀ (x80 : Int),
 x80 = ↑(List.length es23) →
 ∀ (x82 : Bool),
 x82 = (x80 == 0) →
 (x82 = true → r = V.bool true) ∧
 (x82 = false →
 Int.ofNat 0 ≤ 0 ∧
 (0 : Int) < ↑(List.length es23) ∧
 ∃ n86 f87 b88 l89 n90 l91,
 getV es23 0 =
 V.agg
 [.int .i64 n86,
 .agg
 [.agg
 (arrF 16 f87),
 .bool b88, .list false l89, .int .i64 n90, .list false l91]] ∧
 ∀ (x92 : Bool),
 x92 = (n86 == 9) →
 (x92 = true →
 Int.ofNat 0 ≤ 0 ∧
 (0 : Int) < ↑(List.length es23) ∧
 ∃ n95 f96 b97 l98 n99 l100,
 getV es23 0 =
 V.agg
 [.int .i64 n95,
 .agg
 [.agg
 (arrF 16 f96),
 .bool b97, .list false l98, .int .i64 n99, .list false l100]] ∧
 Int.ofNat 0 ≤ 0 ∧
 (0 : Int) < ↑16 ∧
 (0 : Int) < ↑(List.length
 (arrF 16 f96)) ∧
 V.szs [] = 0 ∧
 ∃ n101 n102,
 V.agg [.int .i64 (f96 0).1, .int .i64 (f96 0).2] = V.agg [.int .i64 n101, .int .i64 n102] ∧
 ∀ (x103 : Int), x103 = bits .andNot .i64 (place k 128) x33 → ∀ (x105 : Bool), x105 = (n101 == x103) → (x105 = true → r = V.bool true) ∧ (x105 = false → r = V.bool false)) ∧
 (x92 = false → (false = true → r = V.bool true) ∧ (false = false → r = V.bool false))))) ∧
 (g25 = false →
 ∀ (x113 : Int),
 x113 = ↑(List.length es23) →
 ∀ (x115 : Bool),
 x115 = (x113 == 0) →
 (x115 = true → r = V.bool true) ∧
 (x115 = false →
 Int.ofNat 0 ≤ 0 ∧
 (0 : Int) < ↑(List.length es23) ∧
 ∃ n119 f120 b121 l122 n123 l124,
 getV es23 0 =
 V.agg
 [.int .i64 n119,
 .agg
 [.agg
 (arrF 16 f120),
 .bool b121, .list false l122, .int .i64 n123, .list false l124]] ∧
 ∀ (x125 : Bool),
 x125 = (n119 == 9) →
 (x125 = true →
 Int.ofNat 0 ≤ 0 ∧
 (0 : Int) < ↑(List.length es23) ∧
 ∃ n128 f129 b130 l131 n132 l133,
 getV es23 0 =
 V.agg
 [.int .i64 n128,
 .agg
 [.agg
 (arrF 16 f129),
 .bool b130, .list false l131, .int .i64 n132, .list false l133]] ∧
 Int.ofNat 0 ≤ 0 ∧
 (0 : Int) < ↑16 ∧
 (0 : Int) < ↑(List.length
 (arrF 16 f129)) ∧
 V.szs [] = 0 ∧
 ∃ n134 n135,
 V.agg [.int .i64 (f129 0).1, .int .i64 (f129 0).2] = V.agg [.int .i64 n134, .int .i64 n135] ∧
 ∀ (x136 : Int), x136 = bits .andNot .i64 (place k 128) x33 → ∀ (x138 : Bool), x138 = (n134 == x136) → (x138 = true → r = V.bool true) ∧ (x138 = false → r = V.bool false)) ∧
 (x125 = false → (false = true → r = V.bool true) ∧ (false = false → r = V.bool false)))))))))))) := by kernel_rfl
theorem nl4_0 (k t i : Int) (f : Nat → Int × Int) (ys : List V) (Nx Ex Rt : List V → List Blk → Prop) : wC Try.prog sp4 199 noHint (prsOf [(3, [[], [], [1], [], [3, 2, 1], [2, 1, 4, 3], [5, 2, 1, 4, 3], [6, 5, 2, 1, 4, 3], [0, 6, 5, 2, 1, 4, 3, 7], [8, 0, 6, 5, 2, 1, 4, 3, 7], [9, 8, 0, 6, 5, 2, 1, 4, 3, 7], [9, 8, 0, 6, 5, 2, 1, 4, 3, 7], [9, 8, 0, 6, 5, 2, 1, 4, 3, 7], [9, 8, 0, 6, 5, 2, 1, 4, 3, 7], [], [14, 10, 9, 8, 0, 6, 5, 2, 1, 4, 3, 7], [11, 9, 8, 0, 6, 5, 2, 1, 4, 3, 7, 15, 14, 10], [12, 9, 8, 0, 6, 5, 2, 1, 4, 3, 7, 16, 11, 15, 14, 10], [13, 9, 8, 0, 6, 5, 2, 1, 4, 3, 7, 17, 12, 16, 11, 15, 14, 10]]), (11, [[], [], [1], [2, 1], [3, 2, 1], [], [0, 4, 3, 2, 1, 5], [6, 0, 4, 3, 2, 1, 5], [7, 6, 0, 4, 3, 2, 1, 5], [7, 6, 0, 4, 3, 2, 1, 5], [7, 6, 0, 4, 3, 2, 1, 5], [7, 6, 0, 4, 3, 2, 1, 5], [], [12, 8, 7, 6, 0, 4, 3, 2, 1, 5], [9, 7, 6, 0, 4, 3, 2, 1, 5, 13, 12, 8], [10, 7, 6, 0, 4, 3, 2, 1, 5, 14, 9, 13, 12, 8], [11, 7, 6, 0, 4, 3, 2, 1, 5, 15, 10, 14, 9, 13, 12, 8]]), (15, [[], [], [1], [2, 1], [3, 2, 1], [4, 3, 2, 1], [], [0, 5, 4, 3, 2, 1, 6], [7, 0, 5, 4, 3, 2, 1, 6], [8, 7, 0, 5, 4, 3, 2, 1, 6], [8, 7, 0, 5, 4, 3, 2, 1, 6], [8, 7, 0, 5, 4, 3, 2, 1, 6], [8, 7, 0, 5, 4, 3, 2, 1, 6], [], [13, 9, 8, 7, 0, 5, 4, 3, 2, 1, 6], [10, 8, 7, 0, 5, 4, 3, 2, 1, 6, 14, 13, 9], [11, 8, 7, 0, 5, 4, 3, 2, 1, 6, 15, 10, 14, 13, 9], [12, 8, 7, 0, 5, 4, 3, 2, 1, 6, 16, 11, 15, 10, 14, 13, 9]]), (16, [[], [], [], [0, 1, 2], [3, 0, 1, 2], [4, 3, 0, 1, 2], [4, 3, 0, 1, 2], [4, 3, 0, 1, 2], [4, 3, 0, 1, 2], [], [9, 5, 4, 3, 0, 1, 2], [6, 4, 3, 0, 1, 2, 10, 9, 5], [7, 4, 3, 0, 1, 2, 11, 6, 10, 9, 5], [8, 4, 3, 0, 1, 2, 12, 7, 11, 6, 10, 9, 5]]), (17, [[], [], [1], [2, 1], [3, 2, 1], [], [0, 4, 3, 2, 1, 5], [6, 0, 4, 3, 2, 1, 5], [7, 6, 0, 4, 3, 2, 1, 5], [7, 6, 0, 4, 3, 2, 1, 5], [7, 6, 0, 4, 3, 2, 1, 5], [7, 6, 0, 4, 3, 2, 1, 5], [], [12, 8, 7, 6, 0, 4, 3, 2, 1, 5], [9, 7, 6, 0, 4, 3, 2, 1, 5, 13, 12, 8], [10, 7, 6, 0, 4, 3, 2, 1, 5, 14, 9, 13, 12, 8], [11, 7, 6, 0, 4, 3, 2, 1, 5, 15, 10, 14, 9, 13, 12, 8]]), (22, [[], [], [], [1, 2], [3, 1, 2], [4, 3, 1, 2], [5, 4, 3, 1, 2], [], [0, 6, 5, 4, 3, 1, 2, 7], [8, 0, 6, 5, 4, 3, 1, 2, 7], [9, 8, 0, 6, 5, 4, 3, 1, 2, 7], [9, 8, 0, 6, 5, 4, 3, 1, 2, 7], [9, 8, 0, 6, 5, 4, 3, 1, 2, 7], [9, 8, 0, 6, 5, 4, 3, 1, 2, 7], [], [14, 10, 9, 8, 0, 6, 5, 4, 3, 1, 2, 7], [11, 9, 8, 0, 6, 5, 4, 3, 1, 2, 7, 15, 14, 10], [12, 9, 8, 0, 6, 5, 4, 3, 1, 2, 7, 16, 11, 15, 14, 10], [13, 9, 8, 0, 6, 5, 4, 3, 1, 2, 7, 17, 12, 16, 11, 15, 14, 10]])]) noLs 0 (lcode Try.f4 0).2 1064 (List.zip [7, 8, 10, 11, 15] [.int .i64 k, .int .i64 t, .ptr 1010 0 [], .ptr 1025 0 [], .int .i64 i]) (List.zip [1010, 1025] [⟨none, false, .agg [.nils, .nils, .nils, .nils, .nils, .nils]⟩, ⟨none, false, .agg [.agg (arrF 16 f), .bool true, .list false ys, .int .i64 0, .list false []]⟩]) (endK ends4_0 Nx Ex Rt) = (
 ∀ (x0 : Bool),
 x0 = decide (i < k) →
 (x0 = true →
 ((∀ (v3 : V), List.Mem v3 [V.agg [.int .i64 4, .int .i64 i, .list false []]] → V.sz v3 = 3) ∧ List.length [V.agg [.int .i64 4, .int .i64 i, .list false []]] ≤ 1000) ∧
 ∃ f5 : Nat → Int × Int,
 (arrF 16 f) =
 (arrF 16 f5) ∧
 (LitL [] ∧ (∀ (v6 : V), List.Mem v6 [] → ∃ a8 b9 c10, v6 = V.agg [.int .i64 a8, .int .i64 b9, .int .i64 c10]) ∧ (∀ (v11 : V), List.Mem v11 [] → ∃ a13 b14 c15, v11 = V.agg [.int .i64 a13, .int .i64 b14, .int .i64 c15]) ∧ 0 ≤ 1000000 ∧ 0 ≤ 1000000) ∧
 SOkS ⟨f5, true, ys, 0, []⟩ ∧
 0 ≤ 900 ∧
 (∀ (u16 : V), List.Mem u16 [V.agg [.int .i64 4, .int .i64 i, .list false []]] → T28 u16) ∧
 ∀ (o18 : FS),
 o18 = effO ⟨[], [], [], [], [], []⟩ 15 [V.agg [.int .i64 4, .int .i64 i, .list false []]] ⟨f5, true, ys, 0, []⟩ →
 ∀ (es20 : List V),
 es20 = effE ⟨[], [], [], [], [], []⟩ 15 [V.agg [.int .i64 4, .int .i64 i, .list false []]] ⟨f5, true, ys, 0, []⟩ →
 ∀ (g22 : Bool),
 g22 = effG ⟨[], [], [], [], [], []⟩ 15 [V.agg [.int .i64 4, .int .i64 i, .list false []]] ⟨f5, true, ys, 0, []⟩ →
 ∀ (ok24 : Bool),
 ok24 = effOk ⟨[], [], [], [], [], []⟩ 15 [V.agg [.int .i64 4, .int .i64 i, .list false []]] ⟨f5, true, ys, 0, []⟩ →
 ∀ (x26 : Bool),
 x26 = !ok24 →
 (x26 = true → Rt [V.gd true (V.bool false)] []) ∧
 (x26 = false →
 ∀ (x30 : Int),
 x30 = IntKind.wrap .i64 (i + 1) →
 Nx [V.int .i64 k, V.int .i64 t, V.ptr 1010 0 [], V.ptr 1025 0 [], V.int .i64 x30]
 [⟨none, false, V.agg [.nils, .nils, .nils, .nils, .nils, .nils]⟩,
 ⟨none, false, V.agg
 [.agg
 (arrF 16 (FS.f o18)),
 .bool o18.2, .list false o18.3, .int .i64 o18.4, .list false o18.5]⟩])) ∧
 (x0 = false →
 Ex [V.int .i64 k, V.int .i64 t, V.ptr 1010 0 [], V.ptr 1025 0 []]
 [⟨none, false, V.agg [.nils, .nils, .nils, .nils, .nils, .nils]⟩,
 ⟨none, false, V.agg
 [.agg
 (arrF 16 f),
 .bool true, .list false ys, .int .i64 0, .list false []]⟩])) := by kernel_rfl
theorem n4 (n k l : Int) (r : V) : wC Try.prog sp4 199 noHint (prsOf [(3, [[], [], [1], [], [3, 2, 1], [2, 1, 4, 3], [5, 2, 1, 4, 3], [6, 5, 2, 1, 4, 3], [0, 6, 5, 2, 1, 4, 3, 7], [8, 0, 6, 5, 2, 1, 4, 3, 7], [9, 8, 0, 6, 5, 2, 1, 4, 3, 7], [9, 8, 0, 6, 5, 2, 1, 4, 3, 7], [9, 8, 0, 6, 5, 2, 1, 4, 3, 7], [9, 8, 0, 6, 5, 2, 1, 4, 3, 7], [], [14, 10, 9, 8, 0, 6, 5, 2, 1, 4, 3, 7], [11, 9, 8, 0, 6, 5, 2, 1, 4, 3, 7, 15, 14, 10], [12, 9, 8, 0, 6, 5, 2, 1, 4, 3, 7, 16, 11, 15, 14, 10], [13, 9, 8, 0, 6, 5, 2, 1, 4, 3, 7, 17, 12, 16, 11, 15, 14, 10]]), (11, [[], [], [1], [2, 1], [3, 2, 1], [], [0, 4, 3, 2, 1, 5], [6, 0, 4, 3, 2, 1, 5], [7, 6, 0, 4, 3, 2, 1, 5], [7, 6, 0, 4, 3, 2, 1, 5], [7, 6, 0, 4, 3, 2, 1, 5], [7, 6, 0, 4, 3, 2, 1, 5], [], [12, 8, 7, 6, 0, 4, 3, 2, 1, 5], [9, 7, 6, 0, 4, 3, 2, 1, 5, 13, 12, 8], [10, 7, 6, 0, 4, 3, 2, 1, 5, 14, 9, 13, 12, 8], [11, 7, 6, 0, 4, 3, 2, 1, 5, 15, 10, 14, 9, 13, 12, 8]]), (15, [[], [], [1], [2, 1], [3, 2, 1], [4, 3, 2, 1], [], [0, 5, 4, 3, 2, 1, 6], [7, 0, 5, 4, 3, 2, 1, 6], [8, 7, 0, 5, 4, 3, 2, 1, 6], [8, 7, 0, 5, 4, 3, 2, 1, 6], [8, 7, 0, 5, 4, 3, 2, 1, 6], [8, 7, 0, 5, 4, 3, 2, 1, 6], [], [13, 9, 8, 7, 0, 5, 4, 3, 2, 1, 6], [10, 8, 7, 0, 5, 4, 3, 2, 1, 6, 14, 13, 9], [11, 8, 7, 0, 5, 4, 3, 2, 1, 6, 15, 10, 14, 13, 9], [12, 8, 7, 0, 5, 4, 3, 2, 1, 6, 16, 11, 15, 10, 14, 13, 9]]), (16, [[], [], [], [0, 1, 2], [3, 0, 1, 2], [4, 3, 0, 1, 2], [4, 3, 0, 1, 2], [4, 3, 0, 1, 2], [4, 3, 0, 1, 2], [], [9, 5, 4, 3, 0, 1, 2], [6, 4, 3, 0, 1, 2, 10, 9, 5], [7, 4, 3, 0, 1, 2, 11, 6, 10, 9, 5], [8, 4, 3, 0, 1, 2, 12, 7, 11, 6, 10, 9, 5]]), (17, [[], [], [1], [2, 1], [3, 2, 1], [], [0, 4, 3, 2, 1, 5], [6, 0, 4, 3, 2, 1, 5], [7, 6, 0, 4, 3, 2, 1, 5], [7, 6, 0, 4, 3, 2, 1, 5], [7, 6, 0, 4, 3, 2, 1, 5], [7, 6, 0, 4, 3, 2, 1, 5], [], [12, 8, 7, 6, 0, 4, 3, 2, 1, 5], [9, 7, 6, 0, 4, 3, 2, 1, 5, 13, 12, 8], [10, 7, 6, 0, 4, 3, 2, 1, 5, 14, 9, 13, 12, 8], [11, 7, 6, 0, 4, 3, 2, 1, 5, 15, 10, 14, 9, 13, 12, 8]]), (22, [[], [], [], [1, 2], [3, 1, 2], [4, 3, 1, 2], [5, 4, 3, 1, 2], [], [0, 6, 5, 4, 3, 1, 2, 7], [8, 0, 6, 5, 4, 3, 1, 2, 7], [9, 8, 0, 6, 5, 4, 3, 1, 2, 7], [9, 8, 0, 6, 5, 4, 3, 1, 2, 7], [9, 8, 0, 6, 5, 4, 3, 1, 2, 7], [9, 8, 0, 6, 5, 4, 3, 1, 2, 7], [], [14, 10, 9, 8, 0, 6, 5, 4, 3, 1, 2, 7], [11, 9, 8, 0, 6, 5, 4, 3, 1, 2, 7, 15, 14, 10], [12, 9, 8, 0, 6, 5, 4, 3, 1, 2, 7, 16, 11, 15, 14, 10], [13, 9, 8, 0, 6, 5, 4, 3, 1, 2, 7, 17, 12, 16, 11, 15, 14, 10]])]) ls4 0 (bodyOf Try.f4) 1000 (initL [.int .i64 n, .int .i64 k, .int .i64 l] 0) [] (finK Try.prog none Try.f4.results.toList r) = (
 Int.ofNat 15 ≠ 0 ∧
 Int.ofNat 15 ≠ 0 ∧
 Int.ofNat 4 ≠ 0 ∧
 ((∀ (v0 : V), List.Mem v0 [V.agg [.int .i64 0, .int .i64 (place n 15), .list false []], V.agg [.int .i64 0, .int .i64 (place l 4), .list false []]] → V.sz v0 = 3) ∧ List.length [V.agg [.int .i64 0, .int .i64 (place n 15), .list false []], V.agg [.int .i64 0, .int .i64 (place l 4), .list false []]] ≤ 1000) ∧
 ∀ (f2 : Nat → Int × Int),
 f2 = entF 2 →
 ∃ f4 : Nat → Int × Int,
 (arrF 16 f2) =
 (arrF 16 f4) ∧
 (LitL [] ∧ (∀ (v5 : V), List.Mem v5 [] → ∃ a7 b8 c9, v5 = V.agg [.int .i64 a7, .int .i64 b8, .int .i64 c9]) ∧ (∀ (v10 : V), List.Mem v10 [] → ∃ a12 b13 c14, v10 = V.agg [.int .i64 a12, .int .i64 b13, .int .i64 c14]) ∧ 0 ≤ 1000000 ∧ 0 ≤ 1000000) ∧
 SOkS ⟨f4, false, [], 0, []⟩ ∧
 0 ≤ 900 ∧
 (∀ (u15 : V), List.Mem u15 [V.agg [.int .i64 0, .int .i64 (place n 15), .list false []], V.agg [.int .i64 0, .int .i64 (place l 4), .list false []]] → T28 u15) ∧
 ∀ (o17 : FS),
 o17 = effO ⟨[], [], [], [], [], []⟩ 12 [V.agg [.int .i64 0, .int .i64 (place n 15), .list false []], V.agg [.int .i64 0, .int .i64 (place l 4), .list false []]] ⟨f4, false, [], 0, []⟩ →
 ∀ (es19 : List V),
 es19 = effE ⟨[], [], [], [], [], []⟩ 12 [V.agg [.int .i64 0, .int .i64 (place n 15), .list false []], V.agg [.int .i64 0, .int .i64 (place l 4), .list false []]] ⟨f4, false, [], 0, []⟩ →
 ∀ (g21 : Bool),
 g21 = effG ⟨[], [], [], [], [], []⟩ 12 [V.agg [.int .i64 0, .int .i64 (place n 15), .list false []], V.agg [.int .i64 0, .int .i64 (place l 4), .list false []]] ⟨f4, false, [], 0, []⟩ →
 ∀ (ok23 : Bool),
 ok23 = effOk ⟨[], [], [], [], [], []⟩ 12 [V.agg [.int .i64 0, .int .i64 (place n 15), .list false []], V.agg [.int .i64 0, .int .i64 (place l 4), .list false []]] ⟨f4, false, [], 0, []⟩ →
 ∀ (x25 : Bool),
 x25 = decide (place n 15 > 12) →
 (x25 = true → ∀ (x28 : Bool), x28 = !ok23 → (x28 = true → r = V.bool true) ∧ (x28 = false → r = V.bool false)) ∧
 (x25 = false →
 ∀ (x33 : Bool),
 x33 = decide (place l 4 > 2) →
 (x33 = true → ∀ (x36 : Bool), x36 = !ok23 → (x36 = true → r = V.bool true) ∧ (x36 = false → r = V.bool false)) ∧
 (x33 = false →
 ∀ (x41 : Bool),
 x41 = !ok23 →
 (x41 = true → r = V.bool false) ∧
 (x41 = false →
 ∀ (x45 : Bool),
 x45 = !o17.2 →
 (x45 = true → r = V.bool false) ∧
 (x45 = false →
 List.length o17.3 ≤ 9223372036854775807 →
 ∀ (x50 : Int),
 x50 = ↑(List.length o17.3) →
 ∀ (x52 : Bool),
 x52 = (x50 != place n 15) →
 (x52 = true → r = V.bool false) ∧
 (x52 = false →
 ∀ (x56 : Int),
 x56 = IntKind.wrap .i64 (place l 4 + 1) →
 ∃ f58 : Nat → Int × Int,
 (arrF 16 (FS.f o17)) =
 (arrF 16 f58) ∧
 (liveB f58 x56 = true → r = V.bool false) ∧
 (liveB f58 x56 = false →
 SOk
 (arrF 16 (FS.f o17))
 o17.3 o17.5 ∧
 ∀ (x61 : Bool),
 x61 = (place n 15 == 0) →
 ∀ (x63 : Bool),
 x63 = (readyB o17.2 o17.3 != x61) →
 (x63 = true → r = V.bool false) ∧
 (x63 = false →
 Int.ofNat 0 = 0 ∧
 V.agg [.nils, .nils, .nils, .nils, .nils, .nils] = V.agg [.nils, .nils, .nils, .nils, .nils, .nils] ∧
 o17.2 = true ∧
 o17.5 = [] ∧
 o17.4 = 0 ∧
 0 ≤ place n 15 ∧
 place n 15 ≤ 12 ∧
 o17.3 = ysI (Int.toNat (place n 15)) 0 ∧
 ∃ f67 : Nat → Int × Int,
 (arrF 16 (FS.f o17)) =
 (arrF 16 f67) ∧
 ∀ (x68 : Int),
 x68 = IntKind.wrap .i64 (place n 15 + 1) →
 ((∀ (v70 : V), List.Mem v70 [V.agg [.int .i64 0, .int .i64 x68, .list false []]] → V.sz v70 = 3) ∧ List.length [V.agg [.int .i64 0, .int .i64 x68, .list false []]] ≤ 1000) ∧
 ∃ f72 : Nat → Int × Int,
 (arrF 16 f67) =
 (arrF 16 f72) ∧
 (LitL [] ∧
 (∀ (v73 : V), List.Mem v73 [] → ∃ a75 b76 c77, v73 = V.agg [.int .i64 a75, .int .i64 b76, .int .i64 c77]) ∧
 (∀ (v78 : V), List.Mem v78 [] → ∃ a80 b81 c82, v78 = V.agg [.int .i64 a80, .int .i64 b81, .int .i64 c82]) ∧ 0 ≤ 1000000 ∧ 0 ≤ 1000000) ∧
 SOkS ⟨f72, true, ysI (Int.toNat (place n 15)) (Int.toNat (place n 15)), 0, []⟩ ∧
 0 ≤ 900 ∧
 (∀ (u83 : V), List.Mem u83 [V.agg [.int .i64 0, .int .i64 x68, .list false []]] → T28 u83) ∧
 ∀ (o85 : FS),
 o85 =
 effO ⟨[], [], [], [], [], []⟩ 13 [V.agg [.int .i64 0, .int .i64 x68, .list false []]]
 ⟨f72, true, ysI (Int.toNat (place n 15)) (Int.toNat (place n 15)), 0, []⟩ →
 ∀ (es87 : List V),
 es87 =
 effE ⟨[], [], [], [], [], []⟩ 13 [V.agg [.int .i64 0, .int .i64 x68, .list false []]]
 ⟨f72, true, ysI (Int.toNat (place n 15)) (Int.toNat (place n 15)), 0, []⟩ →
 ∀ (g89 : Bool),
 g89 =
 effG ⟨[], [], [], [], [], []⟩ 13 [V.agg [.int .i64 0, .int .i64 x68, .list false []]]
 ⟨f72, true, ysI (Int.toNat (place n 15)) (Int.toNat (place n 15)), 0, []⟩ →
 ∀ (ok91 : Bool),
 ok91 =
 effOk ⟨[], [], [], [], [], []⟩ 13 [V.agg [.int .i64 0, .int .i64 x68, .list false []]]
 ⟨f72, true, ysI (Int.toNat (place n 15)) (Int.toNat (place n 15)), 0, []⟩ →
 ((∀ (v93 : V), List.Mem v93 [] → V.sz v93 = 3) ∧ 0 ≤ 1000) ∧
 ∃ f95 : Nat → Int × Int,
 (arrF 16 f67) =
 (arrF 16 f95) ∧
 (LitL [] ∧
 (∀ (v96 : V), List.Mem v96 [] → ∃ a98 b99 c100, v96 = V.agg [.int .i64 a98, .int .i64 b99, .int .i64 c100]) ∧
 (∀ (v101 : V), List.Mem v101 [] → ∃ a103 b104 c105, v101 = V.agg [.int .i64 a103, .int .i64 b104, .int .i64 c105]) ∧ 0 ≤ 1000000 ∧ 0 ≤ 1000000) ∧
 SOkS ⟨f95, true, ysI (Int.toNat (place n 15)) (Int.toNat (place n 15)), 0, []⟩ ∧
 0 ≤ 900 ∧
 (∀ (u106 : V), List.Mem u106 [] → T28 u106) ∧
 ∀ (o108 : FS),
 o108 = effO ⟨[], [], [], [], [], []⟩ 11 [] ⟨f95, true, ysI (Int.toNat (place n 15)) (Int.toNat (place n 15)), 0, []⟩ →
 ∀ (es110 : List V),
 es110 = effE ⟨[], [], [], [], [], []⟩ 11 [] ⟨f95, true, ysI (Int.toNat (place n 15)) (Int.toNat (place n 15)), 0, []⟩ →
 ∀ (g112 : Bool),
 g112 = effG ⟨[], [], [], [], [], []⟩ 11 [] ⟨f95, true, ysI (Int.toNat (place n 15)) (Int.toNat (place n 15)), 0, []⟩ →
 ∀ (ok114 : Bool),
 ok114 = effOk ⟨[], [], [], [], [], []⟩ 11 [] ⟨f95, true, ysI (Int.toNat (place n 15)) (Int.toNat (place n 15)), 0, []⟩ →
 ((∀ (v116 : V), List.Mem v116 [V.agg [.int .i64 0, .int .i64 (place k 15), .list false []]] → V.sz v116 = 3) ∧
 List.length [V.agg [.int .i64 0, .int .i64 (place k 15), .list false []]] ≤ 1000) ∧
 ∃ f118 : Nat → Int × Int,
 (arrF 16 f67) =
 (arrF 16 f118) ∧
 (LitL [] ∧
 (∀ (v119 : V), List.Mem v119 [] → ∃ a121 b122 c123, v119 = V.agg [.int .i64 a121, .int .i64 b122, .int .i64 c123]) ∧
 (∀ (v124 : V), List.Mem v124 [] → ∃ a126 b127 c128, v124 = V.agg [.int .i64 a126, .int .i64 b127, .int .i64 c128]) ∧ 0 ≤ 1000000 ∧ 0 ≤ 1000000) ∧
 SOkS ⟨f118, true, ysI (Int.toNat (place n 15)) (Int.toNat (place n 15)), 0, []⟩ ∧
 0 ≤ 900 ∧
 (∀ (u129 : V), List.Mem u129 [V.agg [.int .i64 0, .int .i64 (place k 15), .list false []]] → T28 u129) ∧
 ∀ (o131 : FS),
 o131 =
 effO ⟨[], [], [], [], [], []⟩ 14 [V.agg [.int .i64 0, .int .i64 (place k 15), .list false []]]
 ⟨f118, true, ysI (Int.toNat (place n 15)) (Int.toNat (place n 15)), 0, []⟩ →
 ∀ (es133 : List V),
 es133 =
 effE ⟨[], [], [], [], [], []⟩ 14 [V.agg [.int .i64 0, .int .i64 (place k 15), .list false []]]
 ⟨f118, true, ysI (Int.toNat (place n 15)) (Int.toNat (place n 15)), 0, []⟩ →
 ∀ (g135 : Bool),
 g135 =
 effG ⟨[], [], [], [], [], []⟩ 14 [V.agg [.int .i64 0, .int .i64 (place k 15), .list false []]]
 ⟨f118, true, ysI (Int.toNat (place n 15)) (Int.toNat (place n 15)), 0, []⟩ →
 ∀ (ok137 : Bool),
 ok137 =
 effOk ⟨[], [], [], [], [], []⟩ 14 [V.agg [.int .i64 0, .int .i64 (place k 15), .list false []]]
 ⟨f118, true, ysI (Int.toNat (place n 15)) (Int.toNat (place n 15)), 0, []⟩ →
 (ok91 = true → r = V.bool false) ∧
 (ok91 = false →
 (ok114 = true → r = V.bool false) ∧
 (ok114 = false →
 ∀ (x143 : Bool),
 x143 = decide (place k 15 ≤ place n 15) →
 ∀ (x145 : Bool),
 x145 = (ok137 != x143) →
 (x145 = true → r = V.bool false) ∧
 (x145 = false →
 SOk
 (arrF 16 f67)
 (ysI (Int.toNat (place n 15)) (Int.toNat (place n 15))) [] ∧
 ∀ (x149 : Bool),
 x149 = !readyB true (ysI (Int.toNat (place n 15)) (Int.toNat (place n 15))) →
 (x149 = true → r = V.bool false) ∧
 (x149 = false →
 ∀ (x153 : Bool),
 x153 = !ok137 →
 (x153 = true → r = V.bool true) ∧
 (x153 = false →
 ∀ (x157 : Int),
 x157 = IntKind.wrap .i64 (place n 15 - place k 15) →
 ((∀ (v159 : V), List.Mem v159 [V.agg [.int .i64 0, .int .i64 x157, .list false []]] → V.sz v159 = 3) ∧
 List.length [V.agg [.int .i64 0, .int .i64 x157, .list false []]] ≤ 1000) ∧
 ∃ f161 : Nat → Int × Int,
 (arrF 16 (FS.f o131)) =
 (arrF 16 f161) ∧
 (LitL [] ∧
 (∀ (v162 : V),
 List.Mem v162 [] →
 ∃ a164 b165 c166, v162 = V.agg [.int .i64 a164, .int .i64 b165, .int .i64 c166]) ∧
 (∀ (v167 : V),
 List.Mem v167 [] →
 ∃ a169 b170 c171, v167 = V.agg [.int .i64 a169, .int .i64 b170, .int .i64 c171]) ∧
 0 ≤ 1000000 ∧ 0 ≤ 1000000) ∧
 SOkS ⟨f161, o131.2, o131.3, o131.4, o131.5⟩ ∧
 List.length o131.5 ≤ 900 ∧
 (∀ (u172 : V), List.Mem u172 [V.agg [.int .i64 0, .int .i64 x157, .list false []]] → T28 u172) ∧
 ∀ (o174 : FS),
 o174 =
 effO ⟨[], [], [], [], [], []⟩ 13
 [V.agg [.int .i64 0, .int .i64 x157, .list false []]]
 ⟨f161, o131.2, o131.3, o131.4, o131.5⟩ →
 ∀ (es176 : List V),
 es176 =
 effE ⟨[], [], [], [], [], []⟩ 13
 [V.agg [.int .i64 0, .int .i64 x157, .list false []]]
 ⟨f161, o131.2, o131.3, o131.4, o131.5⟩ →
 ∀ (g178 : Bool),
 g178 =
 effG ⟨[], [], [], [], [], []⟩ 13
 [V.agg [.int .i64 0, .int .i64 x157, .list false []]]
 ⟨f161, o131.2, o131.3, o131.4, o131.5⟩ →
 ∀ (ok180 : Bool),
 ok180 =
 effOk ⟨[], [], [], [], [], []⟩ 13
 [V.agg [.int .i64 0, .int .i64 x157, .list false []]]
 ⟨f161, o131.2, o131.3, o131.4, o131.5⟩ →
 (ok180 = true →
 ∀ (x183 : Bool),
 x183 = !o174.2 →
 (x183 = true →
 List.length o131.3 ≤ 9223372036854775807 →
 ∀ (x187 : Int),
 x187 = ↑(List.length o131.3) →
 ∀ (x189 : Int),
 x189 = IntKind.wrap .i64 (place n 15 - place k 15) →
 ∀ (x191 : Bool),
 x191 = (x187 == x189) →
 (x191 = true → r = V.bool true) ∧ (x191 = false → r = V.bool false)) ∧
 (x183 = false → r = V.bool false)) ∧
 (ok180 = false → r = V.bool false)))))))))))))) := by kernel_rfl
end GoL
