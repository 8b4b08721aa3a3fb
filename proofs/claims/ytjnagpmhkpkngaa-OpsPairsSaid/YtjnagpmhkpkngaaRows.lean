/-
  NARROWER THAN 'FOR EVERY INPUT', by the rows' own cells (each row's printed sentence says how): OpsAll: loops · OpsSpoilt: loops.
  DERIVED. THE GIVEN ROWS OF THIS SEAT. 5 by the template 'for every input the law returns true; each argument reads behind the call as it read before'; 0 by the template 'total and deterministic' (their statements: YtjnagpmhkpkngaaTotals.lean).
  GIVEN WITH THE SEED: the statements are not yours to turn. If you find one false, say at which input.
  Laid BY PROGRAM, IN A SANDBOX (cutbox-rows.mjs): the forced cells as the released guide's own fill.sh prints them over the translation 5eac652d416b1f51… (all of the seat's roots in one cut). By AI agents, Wed Nov 11 2026. No macro, syntax, notation, axiom, sorry.
-/
import Derived.Test.YtjnagpmhkpkngaaChecked
import GoSem.Claim
import GoSem.ClaimJoined
import GoSem.ClaimMapViews
import Derived.JoinedTies
import Derived.KernelRfl
namespace Go.Proofs.Ytjnagpmhkpkngaa
/- THE CELL 'sum', in the pinned program and in every row, IS THE sha256 OF THE DUMP (.gsa) THAT YtjnagpmhkpkngaaProg.lean LOADS. Nothing in Lean hashes anything: it is a label: what it is worth is what the hold of that sum in a sandbox is worth. -/
noncomputable def Try.pinned : Pinned := { name := "ytjnagpmhkpkngaa", sum := "5eac652d416b1f510ae181c65881333a2f8433252964f83dae42fd1dbce9a76d", checked := Try.checked }
namespace Rows
def none {H : Type} : Left H := { results := [], args := [] }

/-- 'relictlaw07.OpsTable': WHATEVER THE INPUT: true; the input reads as it did. -/
def opsTableSpec : ChangeSpec := { name := "opsTable", fn := fun _ => fun
  | [] => { results := [.lit (.bool true)], args := [] }
  | _ => none }
def opsTableRow : OpenClaim := { program := "ytjnagpmhkpkngaa", sum := "5eac652d416b1f510ae181c65881333a2f8433252964f83dae42fd1dbce9a76d", func := "relict/relictlaw07.OpsTable", spec := "opsTable", apart := false }
def OpsTableSaid : Prop := opsTableRow.holds Try.pinned (OpenSpec.ofChange opsTableSpec)

/-- ITS FALSE NEIGHBOUR: 'it returns false'. Refute it at one input. -/
def opsTableWrong : ChangeSpec := { name := "opsTable", fn := fun _ => fun
  | [] => { results := [.lit (.bool false)], args := [] }
  | _ => none }
def OpsTableWrongFalsely : Prop := opsTableRow.holds Try.pinned (OpenSpec.ofChange opsTableWrong)

/-- 'relictlaw07.OpsPairs': WHATEVER THE INPUT: true; the input reads as it did. -/
def opsPairsSpec : ChangeSpec := { name := "opsPairs", fn := fun _ => fun
  | [d1, d2, d3] => { results := [.lit (.bool true)], args := [d1, d2, d3] }
  | _ => none }
def opsPairsRow : OpenClaim := { program := "ytjnagpmhkpkngaa", sum := "5eac652d416b1f510ae181c65881333a2f8433252964f83dae42fd1dbce9a76d", func := "relict/relictlaw07.OpsPairs", spec := "opsPairs", apart := false }
def OpsPairsSaid : Prop := opsPairsRow.holds Try.pinned (OpenSpec.ofChange opsPairsSpec)

/-- ITS FALSE NEIGHBOUR: 'it returns false'. Refute it at one input. -/
def opsPairsWrong : ChangeSpec := { name := "opsPairs", fn := fun _ => fun
  | [d1, d2, d3] => { results := [.lit (.bool false)], args := [d1, d2, d3] }
  | _ => none }
def OpsPairsWrongFalsely : Prop := opsPairsRow.holds Try.pinned (OpenSpec.ofChange opsPairsWrong)

/-- 'relictlaw07.OpsAll': WHATEVER THE INPUT: true; the input reads as it did. -/
def opsAllSpec : ChangeSpec := { name := "opsAll", fn := fun _ => fun
  | [d1, d2] => { results := [.lit (.bool true)], args := [d1, d2] }
  | _ => none }
def opsAllRow : OpenClaim := { program := "ytjnagpmhkpkngaa", sum := "5eac652d416b1f510ae181c65881333a2f8433252964f83dae42fd1dbce9a76d", func := "relict/relictlaw07.OpsAll", spec := "opsAll", recurses := true, loops := true, apart := false }
def OpsAllSaid : Prop := opsAllRow.holds Try.pinned (OpenSpec.ofChange opsAllSpec)

/-- ITS FALSE NEIGHBOUR: 'it returns false'. Refute it at one input. -/
def opsAllWrong : ChangeSpec := { name := "opsAll", fn := fun _ => fun
  | [d1, d2] => { results := [.lit (.bool false)], args := [d1, d2] }
  | _ => none }
def OpsAllWrongFalsely : Prop := opsAllRow.holds Try.pinned (OpenSpec.ofChange opsAllWrong)

/-- 'relictlaw07.OpsSpoilt': WHATEVER THE INPUT: true; the input reads as it did. -/
def opsSpoiltSpec : ChangeSpec := { name := "opsSpoilt", fn := fun _ => fun
  | [d1, d2, d3] => { results := [.lit (.bool true)], args := [d1, d2, d3] }
  | _ => none }
def opsSpoiltRow : OpenClaim := { program := "ytjnagpmhkpkngaa", sum := "5eac652d416b1f510ae181c65881333a2f8433252964f83dae42fd1dbce9a76d", func := "relict/relictlaw07.OpsSpoilt", spec := "opsSpoilt", recurses := true, loops := true, apart := false }
def OpsSpoiltSaid : Prop := opsSpoiltRow.holds Try.pinned (OpenSpec.ofChange opsSpoiltSpec)

/-- ITS FALSE NEIGHBOUR: 'it returns false'. Refute it at one input. -/
def opsSpoiltWrong : ChangeSpec := { name := "opsSpoilt", fn := fun _ => fun
  | [d1, d2, d3] => { results := [.lit (.bool false)], args := [d1, d2, d3] }
  | _ => none }
def OpsSpoiltWrongFalsely : Prop := opsSpoiltRow.holds Try.pinned (OpenSpec.ofChange opsSpoiltWrong)

/-- 'relictlaw07.OpsThrows': WHATEVER THE INPUT: true; the input reads as it did. -/
def opsThrowsSpec : ChangeSpec := { name := "opsThrows", fn := fun _ => fun
  | [d1, d2] => { results := [.lit (.bool true)], args := [d1, d2] }
  | _ => none }
def opsThrowsRow : OpenClaim := { program := "ytjnagpmhkpkngaa", sum := "5eac652d416b1f510ae181c65881333a2f8433252964f83dae42fd1dbce9a76d", func := "relict/relictlaw07.OpsThrows", spec := "opsThrows", apart := false }
def OpsThrowsSaid : Prop := opsThrowsRow.holds Try.pinned (OpenSpec.ofChange opsThrowsSpec)

/-- ITS FALSE NEIGHBOUR: 'it returns false'. Refute it at one input. -/
def opsThrowsWrong : ChangeSpec := { name := "opsThrows", fn := fun _ => fun
  | [d1, d2] => { results := [.lit (.bool false)], args := [d1, d2] }
  | _ => none }
def OpsThrowsWrongFalsely : Prop := opsThrowsRow.holds Try.pinned (OpenSpec.ofChange opsThrowsWrong)

/- THE SECOND FORM. 'bulk': how many values and letters a reading holds, each counted each time it is reached (what is shared counts as often as it is met; a slice's spare places count too). A statement '..UptoSaid' is the law's where the arguments, and the package variables that the reading takes, are together of bulk at most 1048576: NARROWER than '..Said'. Prove '..Said' where nothing that the law and all that it calls make is longer than what came in: it says more and counts as full. Else prove '..UptoSaid'. A law counts once. -/
mutual
def uptoBulk {H : Type} : DataW H → Nat
  | .lit (.string bytes) => bytes.length + 1
  | .lit _ => 1
  | .nil => 1
  | .ptr d => uptoBulk d + 1
  | .slice elems spare => uptoBulkAll elems + uptoBulkAll spare + 1
  | .agg parts => uptoBulkAll parts + 1
  | .iface _ d => uptoBulk d + 1
  | .map entries => uptoBulkEntries entries + 1
  | .held _ => 1
def uptoBulkAll {H : Type} : List (DataW H) → Nat
  | [] => 0
  | d :: r => uptoBulk d + uptoBulkAll r
def uptoBulkEntries {H : Type} : List (Lit × DataW H) → Nat
  | [] => 0
  | x :: r => uptoBulkEntry x + uptoBulkEntries r
def uptoBulkEntry {H : Type} : Lit × DataW H → Nat
  | (.string bytes, d) => bytes.length + uptoBulk d + 1
  | (_, d) => uptoBulk d + 1
 end
def uptoSmall : (H : Type) → List (DataW H) → Bool := fun _ ds => decide (uptoBulkAll ds ≤ 1048576)
def OpenSpec.upto (s : _root_.Go.ChangeSpec) : _root_.Go.OpenSpec := { _root_.Go.OpenSpec.ofChange s with cond := some uptoSmall }

/-- 'relictlaw07.OpsTable', WHERE WHAT IT READS IS OF BULK AT MOST 1048576: true; the input reads as it did. -/
def opsTableUptoRow : OpenClaim := { program := "ytjnagpmhkpkngaa", sum := "5eac652d416b1f510ae181c65881333a2f8433252964f83dae42fd1dbce9a76d", func := "relict/relictlaw07.OpsTable", spec := "opsTable", apart := false, narrowed := true }
def OpsTableUptoSaid : Prop := opsTableUptoRow.holds Try.pinned (OpenSpec.upto opsTableSpec)

/-- 'relictlaw07.OpsPairs', WHERE WHAT IT READS IS OF BULK AT MOST 1048576: true; the input reads as it did. -/
def opsPairsUptoRow : OpenClaim := { program := "ytjnagpmhkpkngaa", sum := "5eac652d416b1f510ae181c65881333a2f8433252964f83dae42fd1dbce9a76d", func := "relict/relictlaw07.OpsPairs", spec := "opsPairs", apart := false, narrowed := true }
def OpsPairsUptoSaid : Prop := opsPairsUptoRow.holds Try.pinned (OpenSpec.upto opsPairsSpec)

/-- 'relictlaw07.OpsAll', WHERE WHAT IT READS IS OF BULK AT MOST 1048576: true; the input reads as it did. -/
def opsAllUptoRow : OpenClaim := { program := "ytjnagpmhkpkngaa", sum := "5eac652d416b1f510ae181c65881333a2f8433252964f83dae42fd1dbce9a76d", func := "relict/relictlaw07.OpsAll", spec := "opsAll", recurses := true, loops := true, apart := false, narrowed := true }
def OpsAllUptoSaid : Prop := opsAllUptoRow.holds Try.pinned (OpenSpec.upto opsAllSpec)

/-- 'relictlaw07.OpsSpoilt', WHERE WHAT IT READS IS OF BULK AT MOST 1048576: true; the input reads as it did. -/
def opsSpoiltUptoRow : OpenClaim := { program := "ytjnagpmhkpkngaa", sum := "5eac652d416b1f510ae181c65881333a2f8433252964f83dae42fd1dbce9a76d", func := "relict/relictlaw07.OpsSpoilt", spec := "opsSpoilt", recurses := true, loops := true, apart := false, narrowed := true }
def OpsSpoiltUptoSaid : Prop := opsSpoiltUptoRow.holds Try.pinned (OpenSpec.upto opsSpoiltSpec)

/-- 'relictlaw07.OpsThrows', WHERE WHAT IT READS IS OF BULK AT MOST 1048576: true; the input reads as it did. -/
def opsThrowsUptoRow : OpenClaim := { program := "ytjnagpmhkpkngaa", sum := "5eac652d416b1f510ae181c65881333a2f8433252964f83dae42fd1dbce9a76d", func := "relict/relictlaw07.OpsThrows", spec := "opsThrows", apart := false, narrowed := true }
def OpsThrowsUptoSaid : Prop := opsThrowsUptoRow.holds Try.pinned (OpenSpec.upto opsThrowsSpec)

end Rows
end Go.Proofs.Ytjnagpmhkpkngaa
