/-
  No cell of these rows narrows 'for every input' (looked for: loops, veiled, ifaces, maps, wideKeys, modest, calm, conditions, laid).
  DERIVED. THE GIVEN ROWS OF THIS SEAT. 2 by the template 'for every input the law returns true; each argument reads behind the call as it read before'; 0 by the template 'total and deterministic' (their statements: YtegbngnjdpihhaaTotals.lean).
  GIVEN WITH THE SEED: the statements are not yours to turn. If you find one false, say at which input.
  Laid BY PROGRAM, IN A SANDBOX (cutbox-rows.mjs): the forced cells as the released guide's own fill.sh prints them over the translation bcfa79d3b1d02ddd… (all of the seat's roots in one cut). By AI agents, Wed Nov 11 2026. No macro, syntax, notation, axiom, sorry.
-/
import Derived.Test.YtegbngnjdpihhaaChecked
import GoSem.Claim
import GoSem.ClaimJoined
import GoSem.ClaimMapViews
import Derived.JoinedTies
import Derived.KernelRfl
namespace Go.Proofs.Ytegbngnjdpihhaa
/- THE CELL 'sum', in the pinned program and in every row, IS THE sha256 OF THE DUMP (.gsa) THAT YtegbngnjdpihhaaProg.lean LOADS. Nothing in Lean hashes anything: it is a label: what it is worth is what the hold of that sum in a sandbox is worth. -/
noncomputable def Try.pinned : Pinned := { name := "ytegbngnjdpihhaa", sum := "bcfa79d3b1d02dddb180388d6a5d7d2c85641259e261c9a2f5acb519be3bed3a", checked := Try.checked }
namespace Rows
def none {H : Type} : Left H := { results := [], args := [] }

/-- 'relictlaw15.FrameSlots': WHATEVER THE INPUT: true; the input reads as it did. -/
def frameSlotsSpec : ChangeSpec := { name := "frameSlots", fn := fun _ => fun
  | [d1, d2, d3] => { results := [.lit (.bool true)], args := [d1, d2, d3] }
  | _ => none }
def frameSlotsRow : OpenClaim := { program := "ytegbngnjdpihhaa", sum := "bcfa79d3b1d02dddb180388d6a5d7d2c85641259e261c9a2f5acb519be3bed3a", func := "relict/relictlaw15.FrameSlots", spec := "frameSlots", unfollowed := true, recurses := true, apart := false }
def FrameSlotsSaid : Prop := frameSlotsRow.holds Try.pinned (OpenSpec.ofChange frameSlotsSpec)

/-- ITS FALSE NEIGHBOUR: 'it returns false'. Refute it at one input. -/
def frameSlotsWrong : ChangeSpec := { name := "frameSlots", fn := fun _ => fun
  | [d1, d2, d3] => { results := [.lit (.bool false)], args := [d1, d2, d3] }
  | _ => none }
def FrameSlotsWrongFalsely : Prop := frameSlotsRow.holds Try.pinned (OpenSpec.ofChange frameSlotsWrong)

/-- 'relictlaw15.FrameEntries': WHATEVER THE INPUT: true; the input reads as it did. -/
def frameEntriesSpec : ChangeSpec := { name := "frameEntries", fn := fun _ => fun
  | [d1, d2, d3] => { results := [.lit (.bool true)], args := [d1, d2, d3] }
  | _ => none }
def frameEntriesRow : OpenClaim := { program := "ytegbngnjdpihhaa", sum := "bcfa79d3b1d02dddb180388d6a5d7d2c85641259e261c9a2f5acb519be3bed3a", func := "relict/relictlaw15.FrameEntries", spec := "frameEntries", unfollowed := true, recurses := true, apart := false }
def FrameEntriesSaid : Prop := frameEntriesRow.holds Try.pinned (OpenSpec.ofChange frameEntriesSpec)

/-- ITS FALSE NEIGHBOUR: 'it returns false'. Refute it at one input. -/
def frameEntriesWrong : ChangeSpec := { name := "frameEntries", fn := fun _ => fun
  | [d1, d2, d3] => { results := [.lit (.bool false)], args := [d1, d2, d3] }
  | _ => none }
def FrameEntriesWrongFalsely : Prop := frameEntriesRow.holds Try.pinned (OpenSpec.ofChange frameEntriesWrong)

/- THE SECOND FORM. 'bulk': how many values and letters a reading holds, each counted each time it is reached (what is shared counts as often as it is met; a slice's spare places count too). A statement '..UptoSaid' is the law's where the arguments, and the package variables that the reading takes, are together of bulk at most 1048576: NARROWER than '..Said'. Prove '..Said' where nothing that the law and all that it calls make is longer than what came in: it says more and counts as full. Else prove '..UptoSaid'. A law counts once. -/
mutual
def uptoBulk {H : Type} : DataW H → Nat
  | .lit (.string bytes) => bytes.length + 1
  | .lit _ => 1
  | .nil => 1
  | .ptr d => uptoBulk d + 1
  | .slice elems spare => uptoBulkAll elems + uptoBulkAll spare + 1
  | .agg parts => uptoBulkAll parts + 1
  | .iface _ d => uptoBulk d + 1
  | .map entries => uptoBulkEntries entries + 1
  | .held _ => 1
def uptoBulkAll {H : Type} : List (DataW H) → Nat
  | [] => 0
  | d :: r => uptoBulk d + uptoBulkAll r
def uptoBulkEntries {H : Type} : List (Lit × DataW H) → Nat
  | [] => 0
  | x :: r => uptoBulkEntry x + uptoBulkEntries r
def uptoBulkEntry {H : Type} : Lit × DataW H → Nat
  | (.string bytes, d) => bytes.length + uptoBulk d + 1
  | (_, d) => uptoBulk d + 1
 end
def uptoSmall : (H : Type) → List (DataW H) → Bool := fun _ ds => decide (uptoBulkAll ds ≤ 1048576)
def OpenSpec.upto (s : _root_.Go.ChangeSpec) : _root_.Go.OpenSpec := { _root_.Go.OpenSpec.ofChange s with cond := some uptoSmall }

/-- 'relictlaw15.FrameSlots', WHERE WHAT IT READS IS OF BULK AT MOST 1048576: true; the input reads as it did. -/
def frameSlotsUptoRow : OpenClaim := { program := "ytegbngnjdpihhaa", sum := "bcfa79d3b1d02dddb180388d6a5d7d2c85641259e261c9a2f5acb519be3bed3a", func := "relict/relictlaw15.FrameSlots", spec := "frameSlots", unfollowed := true, recurses := true, apart := false, narrowed := true }
def FrameSlotsUptoSaid : Prop := frameSlotsUptoRow.holds Try.pinned (OpenSpec.upto frameSlotsSpec)

/-- 'relictlaw15.FrameEntries', WHERE WHAT IT READS IS OF BULK AT MOST 1048576: true; the input reads as it did. -/
def frameEntriesUptoRow : OpenClaim := { program := "ytegbngnjdpihhaa", sum := "bcfa79d3b1d02dddb180388d6a5d7d2c85641259e261c9a2f5acb519be3bed3a", func := "relict/relictlaw15.FrameEntries", spec := "frameEntries", unfollowed := true, recurses := true, apart := false, narrowed := true }
def FrameEntriesUptoSaid : Prop := frameEntriesUptoRow.holds Try.pinned (OpenSpec.upto frameEntriesSpec)

end Rows
end Go.Proofs.Ytegbngnjdpihhaa
