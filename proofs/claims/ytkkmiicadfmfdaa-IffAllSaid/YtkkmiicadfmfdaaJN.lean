/- A part of the proof: a logic for programs of this kind, proved sound over the model; contracts of functions; plain laws. -/
import Derived.Test.YtkkmiicadfmfdaaJD
set_option linter.all false
open Go Go.Proofs
namespace GoL
set_option linter.unusedVariables false
set_option maxRecDepth 100000
theorem nl19_0 (s : List UInt8) (b : Bool) (n i : Int) (Nx Ex Rt : List V → List Blk → Prop) : wC Try.prog sp19 28 noHint (prsOf []) noLs 0 (lcode Try.f19 0).2 1000 (List.zip [0, 3, 9, 10] [.str s, .bool b, .int .i64 n, .int .i64 i]) (List.zip [] []) (endK ends19_0 Nx Ex Rt) = (
  ∀ (x0 : Bool),
    x0 = decide (i < n) →
      (x0 = true →
          (b = true →
              0 ≤ i ∧
                i < ↑(List.length s) ∧
                  ∀ (x4 : Int),
                    x4 = ↑(UInt8.toNat (List.getD s (Int.toNat i) 0)) →
                      ∀ (x6 : Bool),
                        x6 = decide (x4 ≥ 32) →
                          (x6 = true → 0 ≤ i ∧ i < ↑(List.length s) ∧ ∀ (x9 : Int), x9 = ↑(UInt8.toNat (List.getD s (Int.toNat i) 0)) → ∀ (x11 : Bool), x11 = decide (x9 ≤ 126) → ∀ (x13 : Int), x13 = IntKind.wrap IntKind.i64 (i + 1) → Nx [V.str s, V.bool x11, V.int IntKind.i64 n, V.int IntKind.i64 x13] []) ∧
                            (x6 = false → ∀ (x16 : Int), x16 = IntKind.wrap IntKind.i64 (i + 1) → Nx [V.str s, V.gd true (V.bool false), V.int IntKind.i64 n, V.int IntKind.i64 x16] [])) ∧
            (b = false → ∀ (x19 : Int), x19 = IntKind.wrap IntKind.i64 (i + 1) → Nx [V.str s, V.gd true (V.bool false), V.int IntKind.i64 n, V.int IntKind.i64 x19] [])) ∧
        (x0 = false → Ex [V.bool b] [])) := by kernel_rfl
theorem n19 (s : List UInt8) (r : V) : wC Try.prog sp19 28 noHint (prsOf []) ls19 0 (bodyOf Try.f19) 1000 (initL [.str s] 0) [] (finK Try.prog none Try.f19.results.toList r) = (
  List.length s ≤ 9223372036854775807 → ∀ (x1 : Int), x1 = ↑(List.length s) → ∀ (x3 : Bool), x3 = (x1 == 4) → List.length s ≤ 9223372036854775807 → ∀ (x6 : Int), x6 = ↑(List.length s) → x6 = ↑(List.length s) ∧ List.length s ≤ 9223372036854775807 ∧ Int.ofNat 0 = 0 ∧ r = V.bool (if x3 = true then List.all s namB else false) ∧ ((if x3 = true then List.all s namB else false) = false → r = V.bool false)) := by kernel_rfl
theorem nl26_0 (s : List UInt8) (i : Int) (Nx Ex Rt : List V → List Blk → Prop) : wC Try.prog sp26 23 noHint (prsOf []) noLs 0 (lcode Try.f26 0).2 1000 (List.zip [0, 3] [.str s, .int .i64 i]) (List.zip [] []) (endK ends26_0 Nx Ex Rt) = (
  List.length s ≤ 9223372036854775807 →
    ∀ (x1 : Int),
      x1 = ↑(List.length s) →
        ∀ (x3 : Bool),
          x3 = decide (i < x1) →
            (x3 = true →
                0 ≤ i ∧
                  i < ↑(List.length s) ∧
                    ∀ (x6 : Int),
                      x6 = ↑(UInt8.toNat (List.getD s (Int.toNat i) 0)) →
                        ∀ (x8 : Bool),
                          x8 = decide (x6 < 32) →
                            (x8 = true → Rt [V.gd true (V.bool false)] []) ∧ (x8 = false → 0 ≤ i ∧ i < ↑(List.length s) ∧ ∀ (x12 : Int), x12 = ↑(UInt8.toNat (List.getD s (Int.toNat i) 0)) → ∀ (x14 : Bool), x14 = decide (x12 > 126) → (x14 = true → Rt [V.gd true (V.bool false)] []) ∧ (x14 = false → ∀ (x18 : Int), x18 = IntKind.wrap IntKind.i64 (i + 1) → Nx [V.str s, V.int IntKind.i64 x18] []))) ∧
              (x3 = false → Ex [V.str s] [])) := by kernel_rfl
theorem n26 (s : List UInt8) (r : V) : wC Try.prog sp26 23 noHint (prsOf []) ls26 0 (bodyOf Try.f26) 1000 (initL [.str s] 0) [] (finK Try.prog none Try.f26.results.toList r) = (
  Int.ofNat 0 = 0 ∧ (List.all s namB = true → List.length s ≤ 9223372036854775807 → ∀ (x2 : Int), x2 = ↑(List.length s) → ∀ (x4 : Bool), x4 = (x2 == 4) → r = V.bool x4) ∧ (List.all s namB = false → r = V.bool false)) := by kernel_rfl
theorem nl28_29 (s : List UInt8) (ls : List V) (n i : Int) (Nx Ex Rt : List V → List Blk → Prop) : wC Try.prog sp28_29 19 noHint (prsOf []) noLs 0 (lcode Try.f28 0).2 1000 (List.zip [0, 1, 7, 8] [.list false ls, .fn 29 [.dptr (.str s)], .int .i64 n, .int .i64 i]) (List.zip [] []) (endK ends28_29 Nx Ex Rt) = (
  ∀ (x0 : Bool), x0 = decide (i < n) → (x0 = true → 0 ≤ i ∧ i < ↑(List.length ls) ∧ ∃ s3 s4, getV ls i = V.agg [V.str s3, V.str s4] ∧ ((s3 == s) = true → Rt [V.int IntKind.i64 i] []) ∧ ((s3 == s) = false → ∀ (x7 : Int), x7 = IntKind.wrap IntKind.i64 (i + 1) → Nx [V.list false ls, V.fn 29 [V.dptr (V.str s)], V.int IntKind.i64 n, V.int IntKind.i64 x7] [])) ∧ (x0 = false → Ex [] [])) := by kernel_rfl
theorem n28_29 (s : List UInt8) (ls : List V) (r : V) : wC Try.prog sp28_29 19 noHint (prsOf []) ls28_29 0 (bodyOf Try.f28) 1000 (initL [.list false ls, .fn 29 [.dptr (.str s)]] 0) [] (finK Try.prog none Try.f28.results.toList r) = (
  List.length ls ≤ 9223372036854775807 → ∀ (x1 : Int), x1 = ↑(List.length ls) → x1 = ↑(List.length ls) ∧ List.length ls ≤ 9223372036854775807 ∧ Int.ofNat 0 = 0 ∧ CLs ls ∧ (idxI s ls 0 = -1 → r = V.int IntKind.i64 (-1)) ∧ (idxI s ls 0 ≠ -1 → r = V.int IntKind.i64 (idxI s ls 0))) := by kernel_rfl
theorem nl28_31 (s : List UInt8) (ls : List V) (n i : Int) (Nx Ex Rt : List V → List Blk → Prop) : wC Try.prog sp28_31 19 noHint (prsOf []) noLs 0 (lcode Try.f28 0).2 1000 (List.zip [0, 1, 7, 8] [.list false ls, .fn 31 [.dptr (.str s)], .int .i64 n, .int .i64 i]) (List.zip [] []) (endK ends28_31 Nx Ex Rt) = (
  ∀ (x0 : Bool), x0 = decide (i < n) → (x0 = true → 0 ≤ i ∧ i < ↑(List.length ls) ∧ ∃ s3 s4, getV ls i = V.agg [V.str s3, V.str s4] ∧ ((s3 == s) = true → Rt [V.int IntKind.i64 i] []) ∧ ((s3 == s) = false → ∀ (x7 : Int), x7 = IntKind.wrap IntKind.i64 (i + 1) → Nx [V.list false ls, V.fn 31 [V.dptr (V.str s)], V.int IntKind.i64 n, V.int IntKind.i64 x7] [])) ∧ (x0 = false → Ex [] [])) := by kernel_rfl
theorem n28_31 (s : List UInt8) (ls : List V) (r : V) : wC Try.prog sp28_31 19 noHint (prsOf []) ls28_31 0 (bodyOf Try.f28) 1000 (initL [.list false ls, .fn 31 [.dptr (.str s)]] 0) [] (finK Try.prog none Try.f28.results.toList r) = (
  List.length ls ≤ 9223372036854775807 → ∀ (x1 : Int), x1 = ↑(List.length ls) → x1 = ↑(List.length ls) ∧ List.length ls ≤ 9223372036854775807 ∧ Int.ofNat 0 = 0 ∧ CLs ls ∧ (idxI s ls 0 = -1 → r = V.int IntKind.i64 (-1)) ∧ (idxI s ls 0 ≠ -1 → r = V.int IntKind.i64 (idxI s ls 0))) := by kernel_rfl
theorem n30 (s : List UInt8) (ls : List V) (r : V) : wC Try.prog sp30 9 noHint (prsOf []) noLs 0 (bodyOf Try.f30) 1000 (initL [.list false ls, .fn 31 [.dptr (.str s)]] 0) [] (finK Try.prog none Try.f30.results.toList r) = (
  CLs ls ∧ ∀ (x0 : Bool), x0 = decide (idxI s ls 0 ≥ 0) → r = V.bool x0) := by kernel_rfl
theorem n20 (s : List UInt8) (ls : List V) (r : V) : wC Try.prog sp20 8 noHint (prsOf []) noLs 0 (bodyOf Try.f20) 1000 (initL [.list false ls, .str s] 0) [] (finK Try.prog none Try.f20.results.toList r) = (
  (0 = 0 ∧
      ∀ (v0 : V),
        List.Mem v0 [V.ptr 1000 0 []] →
          (match v0 with
              | V.tup vs => false
              | V.gd g v => false
              | V.own e vs => false
              | V.nbox v => false
              | V.junk => false
              | x => true) =
              true ∧
            (match v0 with
              | V.agg vs => true
              | x => false) =
              false) ∧
    (True → CLs ls ∧ r = V.bool (hasS ls s))) := by kernel_rfl
theorem n17 (s : List UInt8) (ls : List V) (r : V) : wC Try.prog sp17 17 noHint (prsOf []) noLs 0 (bodyOf Try.f17) 1000 (initL [.list false ls, .str s] 0) [] (finK Try.prog none Try.f17.results.toList r) = (
  (0 = 0 ∧
      ∀ (v0 : V),
        List.Mem v0 [V.ptr 1000 0 []] →
          (match v0 with
              | V.tup vs => false
              | V.gd g v => false
              | V.own e vs => false
              | V.nbox v => false
              | V.junk => false
              | x => true) =
              true ∧
            (match v0 with
              | V.agg vs => true
              | x => false) =
              false) ∧
    (True → CLs ls ∧ ∀ (x3 : Bool), x3 = decide (idxI s ls 0 ≥ 0) → (x3 = true → 0 ≤ idxI s ls 0 ∧ idxI s ls 0 < ↑(List.length ls) ∧ ∃ s6 s7, getV ls (idxI s ls 0) = V.agg [V.str s6, V.str s7] ∧ r = V.tup [V.str s7, V.bool true]) ∧ (x3 = false → r = V.tup [V.str [], V.bool false]))) := by kernel_rfl
theorem nl18_0 (s : List UInt8) (ls : List V) (i : Int) (Nx Ex Rt : List V → List Blk → Prop) : wC Try.prog sp18 25 noHint (prsOf []) noLs 0 (lcode Try.f18 0).2 1000 (List.zip [0, 1, 6] [.list false ls, .str s, .int .i64 i]) (List.zip [] []) (endK ends18_0 Nx Ex Rt) = (
  List.length ls ≤ 9223372036854775807 →
    ∀ (x1 : Int),
      x1 = ↑(List.length ls) →
        ∀ (x3 : Bool),
          x3 = decide (i < x1) →
            (x3 = true →
                0 ≤ i ∧
                  i < ↑(List.length ls) ∧ ∃ s6 s7, getV ls i = V.agg [V.str s6, V.str s7] ∧ ∀ (x8 : Bool), x8 = (s6 == s) → (x8 = true → 0 ≤ i ∧ i < ↑(List.length ls) ∧ ∃ s11 s12, getV ls i = V.agg [V.str s11, V.str s12] ∧ Rt [V.str s12, V.gd true (V.bool true)] []) ∧ (x8 = false → ∀ (x14 : Int), x14 = IntKind.wrap IntKind.i64 (i + 1) → Nx [V.list false ls, V.str s, V.int IntKind.i64 x14] [])) ∧
              (x3 = false → Ex [] [])) := by kernel_rfl
theorem n18 (s : List UInt8) (ls : List V) (r : V) : wC Try.prog sp18 25 noHint (prsOf []) ls18 0 (bodyOf Try.f18) 1000 (initL [.list false ls, .str s] 0) [] (finK Try.prog none Try.f18.results.toList r) = (
  Int.ofNat 0 = 0 ∧ CLs ls ∧ ((findS s ls).2 = false → r = V.tup [V.str [], V.bool false]) ∧ ((findS s ls).2 = true → r = V.tup [V.str (findS s ls).1, V.bool true])) := by kernel_rfl
theorem nl19_1 (s : List UInt8) (n i : Int) (Nx Ex Rt : List V → List Blk → Prop) : wC Try.prog sp19 28 noHint (prsOf []) noLs 0 (lcode Try.f19 0).2 1000 (List.zip [0, 3, 9, 10] [.str s, .gd true (.bool false), .int .i64 n, .int .i64 i]) (List.zip [] []) (endK ends19_1 Nx Ex Rt) = (
  ∀ (x0 : Bool), x0 = decide (i < n) → (x0 = true → ∀ (x3 : Int), x3 = IntKind.wrap IntKind.i64 (i + 1) → Nx [V.str s, V.gd true (V.bool false), V.int IntKind.i64 n, V.int IntKind.i64 x3] []) ∧ (x0 = false → Ex [V.gd true (V.bool false)] [])) := by kernel_rfl
end GoL
