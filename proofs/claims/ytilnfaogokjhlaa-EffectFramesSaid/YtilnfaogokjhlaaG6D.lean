/- A part of the proof: a logic for programs of this kind, proved sound over the model; contracts of functions; plain laws. -/
import Derived.Test.YtilnfaogokjhlaaG5P
import Derived.Test.YtilnfaogokjhlaaProg
import Derived.KernelRfl
set_option linter.all false
open Go Go.Proofs
namespace GoL
set_option linter.unusedVariables false
set_option linter.unusedSimpArgs false
@[reducible] def m0 : MD := ⟨[], [], [], [], [], []⟩
def b49 : List V → (V → Prop) → Prop
  | [], k => k (.agg [.int .i64 0, .int .i64 (-1)])
  | _, _ => False
def ent25 : List V → List Blk → KK → Prop
  | [.int .i64 n, .ptr 1000 0 [], .ptr 1001 0 [], .int .i64 i], [⟨none, false, t0⟩, ⟨none, false, .agg [.agg X, .bool false, .nils, .int .i64 r, .nils]⟩], K => i = 0 ∧ t0 = zS ∧ r = 0 ∧ (∃ f, X = arrF 16 f) ∧ K (.exit 0) 1003 [(2, .ptr 1000 0 []), (3, .ptr 1001 0 [])] [(1000, ⟨none, false, zS⟩), (1001, ⟨none, false, .agg [.agg (arrF 16 (entF n)), .bool false, .nils, .int .i64 0, .nils]⟩)]
  | _, _, _ => False
def ls25 : LsT := lsAdd 0 1003 [0, 2, 3, 4] [1000, 1001] ent25 noLs
def sp25 : SpT := spAdd 49 b49 spNil
def b25 : List V → (V → Prop) → Prop
  | [.int .i64 n], k => ∀ f, f = entF n → k (.agg [.agg (arrF 16 f), .bool false, .list false [], .int .i64 0, .list false []])
  | _, _ => False
def sp24 : SpT := spNil
def sp49 : SpT := spNil
def sp14 : SpT := spNil
def ent24 : List V → List Blk → KK → Prop
  | [.ptr 1000 0 [], .ptr 1001 0 [], .ptr 1010 0 [], .int .i64 i], [⟨none, false, .agg [.agg X, .bool false, .list false [], .int .i64 r, .list false []]⟩, ⟨none, false, t0⟩, ⟨some 3, false, .agg []⟩, ⟨none, false, .agg [.agg Y, .bool false, .nils, .int .i64 q, .sl 1008 0]⟩], K => i = 0 ∧ t0 = zS ∧ r = 0 ∧ q = 0 ∧ (∃ g, Y = arrF 16 g) ∧ ∃ f, X = arrF 16 f ∧ K (.exit 0) 1013 [(1, .ptr 1000 0 []), (2, .ptr 1001 0 []), (3, .ptr 1010 0 [])] [(1000, ⟨none, false, .agg [.agg (arrF 16 f), .bool false, .list false [], .int .i64 0, .list false []]⟩), (1001, ⟨none, false, zS⟩), (1008, ⟨some 3, false, .agg []⟩), (1010, ⟨none, false, .agg [.agg (arrF 16 f), .bool false, .nils, .int .i64 0, .sl 1008 0]⟩)]
  | _, _, _ => False
def ent24b : List V → List Blk → KK → Prop
  | [.ptr 1000 0 [], .ptr 1001 0 [], .ptr 1010 0 [], .int .i64 i], [⟨none, false, .agg [.agg X, .bool false, .list false [], .int .i64 r, .list false []]⟩, ⟨none, false, t0⟩, ⟨some 3, false, .agg []⟩, ⟨none, false, .agg [.agg Y, .bool false, .nils, .int .i64 q, .sl 1008 0]⟩], K => i = 0 ∧ t0 = zS ∧ r = 0 ∧ q = 0 ∧ ∃ g, X = arrF 16 g ∧ ∃ f, Y = arrF 16 f ∧ K (.exit 2) 1014 [(1, .ptr 1000 0 []), (2, .ptr 1001 0 []), (3, .ptr 1010 0 [])] [(1000, ⟨none, false, .agg [.agg (arrF 16 g), .bool false, .list false [], .int .i64 0, .list false []]⟩), (1001, ⟨none, false, zS⟩), (1008, ⟨some 3, false, .agg []⟩), (1010, ⟨none, false, .agg [.agg (arrF 16 f), .bool false, .nils, .int .i64 0, .sl 1008 0]⟩)]
  | _, _, _ => False
def ls24 : LsT := lsAdd 0 1013 [1, 2, 3, 4] [1000, 1001, 1008, 1010] ent24 (lsAdd 2 1014 [1, 2, 3, 5] [1000, 1001, 1008, 1010] ent24b noLs)
def b24 : List V → (V → Prop) → Prop
  | [.agg [.agg X, .bool false, .list false [], .int .i64 r, .list false []]], k => r = 0 ∧ ∃ f, X = arrF 16 f ∧ k (.agg [.agg (arrF 16 f), .bool false, .list false [], .int .i64 0, .list false []])
  | _, _ => False
def b14 : List V → (V → Prop) → Prop
  | [.list false xs], k => (∀ v ∈ xs, v.sz = 3) ∧ xs.length ≤ 1000 ∧ k (.agg [.int .i64 7, .int .i64 0, .list false xs])
  | _, _ => False
def b7 : List V → (V → Prop) → Prop
  | [.agg [.list false am, .list false im, .list false ex, .list false fu, .list false li, .list false co], .agg [.int .i64 op, .list false ag], .agg [.agg X, .bool fr, .list false ys, .int .i64 rm, .list false ts]], k => ∃ f, X = arrF 16 f ∧ MOk ⟨am, im, ex, fu, li, co⟩ ∧ SOkS ⟨f, fr, ys, rm, ts⟩ ∧ ts.length ≤ 900 ∧ (∀ u ∈ ag, T28 u) ∧ ∀ o, o = effO ⟨am, im, ex, fu, li, co⟩ op ag ⟨f, fr, ys, rm, ts⟩ → ∀ es, es = effE ⟨am, im, ex, fu, li, co⟩ op ag ⟨f, fr, ys, rm, ts⟩ → ∀ g, g = effG ⟨am, im, ex, fu, li, co⟩ op ag ⟨f, fr, ys, rm, ts⟩ → ∀ ok, ok = effOk ⟨am, im, ex, fu, li, co⟩ op ag ⟨f, fr, ys, rm, ts⟩ → k (.tup [.agg [.agg (arrF 16 o.f), .bool o.fr, .list false o.ys, .int .i64 o.rm, .list false o.ts], .list false es, .bool g, .bool ok])
  | _, _ => False
def b11 : List V → (V → Prop) → Prop
  | [], k => k (.bool true)
  | _, _ => False
def sp11 : SpT := spAdd 25 b25 (spAdd 24 b24 (spAdd 12 b12 (spAdd 8 b8 (spAdd 7 b7 spNil))))

def ends25_0 : EndsL := ⟨1003, [0, 2, 3, 4], [1000, 1001], 0, 1003, [2, 3], [1000, 1001], [], []⟩
def ends24_0 : EndsL := ⟨1013, [1, 2, 3, 4], [1000, 1001, 1008, 1010], 0, 1013, [1, 2, 3], [1000, 1001, 1008, 1010], [], []⟩
def ends24_1 : EndsL := ⟨1014, [1, 2, 3, 5], [1000, 1001, 1008, 1010], 2, 1014, [1, 2, 3], [1000, 1001, 1008, 1010], [], []⟩
end GoL
