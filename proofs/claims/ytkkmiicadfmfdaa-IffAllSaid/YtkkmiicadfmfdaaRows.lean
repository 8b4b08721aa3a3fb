/-
  No cell of these rows narrows 'for every input' (looked for: loops, veiled, ifaces, maps, wideKeys, modest, calm, conditions, laid).
  DERIVED. THE GIVEN ROWS OF THIS SEAT. 5 by the template 'for every input the law returns true; each argument reads behind the call as it read before'; 0 by the template 'total and deterministic' (their statements: YtkkmiicadfmfdaaTotals.lean).
  GIVEN WITH THE SEED: the statements are not yours to turn. If you find one false, say at which input.
  Laid BY PROGRAM, IN A SANDBOX (cutbox-rows.mjs): the forced cells as the released guide's own fill.sh prints them over the translation 754cecf389876f85… (all of the seat's roots in one cut). By AI agents, Wed Nov 11 2026. No macro, syntax, notation, axiom, sorry.
-/
import Derived.Test.YtkkmiicadfmfdaaChecked
import GoSem.Claim
import GoSem.ClaimJoined
import GoSem.ClaimMapViews
import Derived.JoinedTies
import Derived.KernelRfl
namespace Go.Proofs.Ytkkmiicadfmfdaa
/- THE CELL 'sum', in the pinned program and in every row, IS THE sha256 OF THE DUMP (.gsa) THAT YtkkmiicadfmfdaaProg.lean LOADS. Nothing in Lean hashes anything: it is a label: what it is worth is what the hold of that sum in a sandbox is worth. -/
noncomputable def Try.pinned : Pinned := { name := "ytkkmiicadfmfdaa", sum := "754cecf389876f85f530ac2d9fcfce91941d282ad2946ddbb4860cdfb6f12272", checked := Try.checked }
namespace Rows
def none {H : Type} : Left H := { results := [], args := [] }

/-- 'relictlaw05.IffBack': WHATEVER THE INPUT: true; the input reads as it did. -/
def iffBackSpec : ChangeSpec := { name := "iffBack", fn := fun _ => fun
  | [d1, d2] => { results := [.lit (.bool true)], args := [d1, d2] }
  | _ => none }
def iffBackRow : OpenClaim := { program := "ytkkmiicadfmfdaa", sum := "754cecf389876f85f530ac2d9fcfce91941d282ad2946ddbb4860cdfb6f12272", func := "relict/relictlaw05.IffBack", spec := "iffBack", unfollowed := true, recurses := true, apart := false }
def IffBackSaid : Prop := iffBackRow.holds Try.pinned (OpenSpec.ofChange iffBackSpec)

/-- ITS FALSE NEIGHBOUR: 'it returns false'. Refute it at one input. -/
def iffBackWrong : ChangeSpec := { name := "iffBack", fn := fun _ => fun
  | [d1, d2] => { results := [.lit (.bool false)], args := [d1, d2] }
  | _ => none }
def IffBackWrongFalsely : Prop := iffBackRow.holds Try.pinned (OpenSpec.ofChange iffBackWrong)

/-- 'relictlaw05.IffSpoilt': WHATEVER THE INPUT: true; the input reads as it did. -/
def iffSpoiltSpec : ChangeSpec := { name := "iffSpoilt", fn := fun _ => fun
  | [d1, d2, d3] => { results := [.lit (.bool true)], args := [d1, d2, d3] }
  | _ => none }
def iffSpoiltRow : OpenClaim := { program := "ytkkmiicadfmfdaa", sum := "754cecf389876f85f530ac2d9fcfce91941d282ad2946ddbb4860cdfb6f12272", func := "relict/relictlaw05.IffSpoilt", spec := "iffSpoilt", unfollowed := true, recurses := true, apart := false }
def IffSpoiltSaid : Prop := iffSpoiltRow.holds Try.pinned (OpenSpec.ofChange iffSpoiltSpec)

/-- ITS FALSE NEIGHBOUR: 'it returns false'. Refute it at one input. -/
def iffSpoiltWrong : ChangeSpec := { name := "iffSpoilt", fn := fun _ => fun
  | [d1, d2, d3] => { results := [.lit (.bool false)], args := [d1, d2, d3] }
  | _ => none }
def IffSpoiltWrongFalsely : Prop := iffSpoiltRow.holds Try.pinned (OpenSpec.ofChange iffSpoiltWrong)

/-- 'relictlaw05.IffLengths': WHATEVER THE INPUT: true; the input reads as it did. -/
def iffLengthsSpec : ChangeSpec := { name := "iffLengths", fn := fun _ => fun
  | [d1, d2] => { results := [.lit (.bool true)], args := [d1, d2] }
  | _ => none }
def iffLengthsRow : OpenClaim := { program := "ytkkmiicadfmfdaa", sum := "754cecf389876f85f530ac2d9fcfce91941d282ad2946ddbb4860cdfb6f12272", func := "relict/relictlaw05.IffLengths", spec := "iffLengths", unfollowed := true, recurses := true, apart := false }
def IffLengthsSaid : Prop := iffLengthsRow.holds Try.pinned (OpenSpec.ofChange iffLengthsSpec)

/-- ITS FALSE NEIGHBOUR: 'it returns false'. Refute it at one input. -/
def iffLengthsWrong : ChangeSpec := { name := "iffLengths", fn := fun _ => fun
  | [d1, d2] => { results := [.lit (.bool false)], args := [d1, d2] }
  | _ => none }
def IffLengthsWrongFalsely : Prop := iffLengthsRow.holds Try.pinned (OpenSpec.ofChange iffLengthsWrong)

/-- 'relictlaw05.IffAll': WHATEVER THE INPUT: true; the input reads as it did. -/
def iffAllSpec : ChangeSpec := { name := "iffAll", fn := fun _ => fun
  | [d1, d2, d3] => { results := [.lit (.bool true)], args := [d1, d2, d3] }
  | _ => none }
def iffAllRow : OpenClaim := { program := "ytkkmiicadfmfdaa", sum := "754cecf389876f85f530ac2d9fcfce91941d282ad2946ddbb4860cdfb6f12272", func := "relict/relictlaw05.IffAll", spec := "iffAll", unfollowed := true, recurses := true, apart := false }
def IffAllSaid : Prop := iffAllRow.holds Try.pinned (OpenSpec.ofChange iffAllSpec)

/-- ITS FALSE NEIGHBOUR: 'it returns false'. Refute it at one input. -/
def iffAllWrong : ChangeSpec := { name := "iffAll", fn := fun _ => fun
  | [d1, d2, d3] => { results := [.lit (.bool false)], args := [d1, d2, d3] }
  | _ => none }
def IffAllWrongFalsely : Prop := iffAllRow.holds Try.pinned (OpenSpec.ofChange iffAllWrong)

/-- 'relictlaw05.IffSizes': WHATEVER THE INPUT: true; the input reads as it did. -/
def iffSizesSpec : ChangeSpec := { name := "iffSizes", fn := fun _ => fun
  | [d1, d2] => { results := [.lit (.bool true)], args := [d1, d2] }
  | _ => none }
def iffSizesRow : OpenClaim := { program := "ytkkmiicadfmfdaa", sum := "754cecf389876f85f530ac2d9fcfce91941d282ad2946ddbb4860cdfb6f12272", func := "relict/relictlaw05.IffSizes", spec := "iffSizes", unfollowed := true, recurses := true, apart := false }
def IffSizesSaid : Prop := iffSizesRow.holds Try.pinned (OpenSpec.ofChange iffSizesSpec)

/-- ITS FALSE NEIGHBOUR: 'it returns false'. Refute it at one input. -/
def iffSizesWrong : ChangeSpec := { name := "iffSizes", fn := fun _ => fun
  | [d1, d2] => { results := [.lit (.bool false)], args := [d1, d2] }
  | _ => none }
def IffSizesWrongFalsely : Prop := iffSizesRow.holds Try.pinned (OpenSpec.ofChange iffSizesWrong)

/- THE SECOND FORM. 'bulk': how many values and letters a reading holds, each counted each time it is reached (what is shared counts as often as it is met; a slice's spare places count too). A statement '..UptoSaid' is the law's where the arguments, and the package variables that the reading takes, are together of bulk at most 1048576: NARROWER than '..Said'. Prove '..Said' where nothing that the law and all that it calls make is longer than what came in: it says more and counts as full. Else prove '..UptoSaid'. A law counts once. -/
mutual
def uptoBulk {H : Type} : DataW H → Nat
  | .lit (.string bytes) => bytes.length + 1
  | .lit _ => 1
  | .nil => 1
  | .ptr d => uptoBulk d + 1
  | .slice elems spare => uptoBulkAll elems + uptoBulkAll spare + 1
  | .agg parts => uptoBulkAll parts + 1
  | .iface _ d => uptoBulk d + 1
  | .map entries => uptoBulkEntries entries + 1
  | .held _ => 1
def uptoBulkAll {H : Type} : List (DataW H) → Nat
  | [] => 0
  | d :: r => uptoBulk d + uptoBulkAll r
def uptoBulkEntries {H : Type} : List (Lit × DataW H) → Nat
  | [] => 0
  | x :: r => uptoBulkEntry x + uptoBulkEntries r
def uptoBulkEntry {H : Type} : Lit × DataW H → Nat
  | (.string bytes, d) => bytes.length + uptoBulk d + 1
  | (_, d) => uptoBulk d + 1
 end
def uptoSmall : (H : Type) → List (DataW H) → Bool := fun _ ds => decide (uptoBulkAll ds ≤ 1048576)
def OpenSpec.upto (s : _root_.Go.ChangeSpec) : _root_.Go.OpenSpec := { _root_.Go.OpenSpec.ofChange s with cond := some uptoSmall }

/-- 'relictlaw05.IffBack', WHERE WHAT IT READS IS OF BULK AT MOST 1048576: true; the input reads as it did. -/
def iffBackUptoRow : OpenClaim := { program := "ytkkmiicadfmfdaa", sum := "754cecf389876f85f530ac2d9fcfce91941d282ad2946ddbb4860cdfb6f12272", func := "relict/relictlaw05.IffBack", spec := "iffBack", unfollowed := true, recurses := true, apart := false, narrowed := true }
def IffBackUptoSaid : Prop := iffBackUptoRow.holds Try.pinned (OpenSpec.upto iffBackSpec)

/-- 'relictlaw05.IffSpoilt', WHERE WHAT IT READS IS OF BULK AT MOST 1048576: true; the input reads as it did. -/
def iffSpoiltUptoRow : OpenClaim := { program := "ytkkmiicadfmfdaa", sum := "754cecf389876f85f530ac2d9fcfce91941d282ad2946ddbb4860cdfb6f12272", func := "relict/relictlaw05.IffSpoilt", spec := "iffSpoilt", unfollowed := true, recurses := true, apart := false, narrowed := true }
def IffSpoiltUptoSaid : Prop := iffSpoiltUptoRow.holds Try.pinned (OpenSpec.upto iffSpoiltSpec)

/-- 'relictlaw05.IffLengths', WHERE WHAT IT READS IS OF BULK AT MOST 1048576: true; the input reads as it did. -/
def iffLengthsUptoRow : OpenClaim := { program := "ytkkmiicadfmfdaa", sum := "754cecf389876f85f530ac2d9fcfce91941d282ad2946ddbb4860cdfb6f12272", func := "relict/relictlaw05.IffLengths", spec := "iffLengths", unfollowed := true, recurses := true, apart := false, narrowed := true }
def IffLengthsUptoSaid : Prop := iffLengthsUptoRow.holds Try.pinned (OpenSpec.upto iffLengthsSpec)

/-- 'relictlaw05.IffAll', WHERE WHAT IT READS IS OF BULK AT MOST 1048576: true; the input reads as it did. -/
def iffAllUptoRow : OpenClaim := { program := "ytkkmiicadfmfdaa", sum := "754cecf389876f85f530ac2d9fcfce91941d282ad2946ddbb4860cdfb6f12272", func := "relict/relictlaw05.IffAll", spec := "iffAll", unfollowed := true, recurses := true, apart := false, narrowed := true }
def IffAllUptoSaid : Prop := iffAllUptoRow.holds Try.pinned (OpenSpec.upto iffAllSpec)

/-- 'relictlaw05.IffSizes', WHERE WHAT IT READS IS OF BULK AT MOST 1048576: true; the input reads as it did. -/
def iffSizesUptoRow : OpenClaim := { program := "ytkkmiicadfmfdaa", sum := "754cecf389876f85f530ac2d9fcfce91941d282ad2946ddbb4860cdfb6f12272", func := "relict/relictlaw05.IffSizes", spec := "iffSizes", unfollowed := true, recurses := true, apart := false, narrowed := true }
def IffSizesUptoSaid : Prop := iffSizesUptoRow.holds Try.pinned (OpenSpec.upto iffSizesSpec)

end Rows
end Go.Proofs.Ytkkmiicadfmfdaa
