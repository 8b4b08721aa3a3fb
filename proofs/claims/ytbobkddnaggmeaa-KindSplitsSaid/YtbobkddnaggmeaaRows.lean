/-
  NARROWER THAN 'FOR EVERY INPUT', by the rows' own cells (each row's printed sentence says how): KindSplits: loops.
  DERIVED. THE GIVEN ROWS OF THIS SEAT. 4 by the template 'for every input the law returns true; each argument reads behind the call as it read before'; 0 by the template 'total and deterministic' (their statements: YtbobkddnaggmeaaTotals.lean).
  GIVEN WITH THE SEED: the statements are not yours to turn. If you find one false, say at which input.
  Laid BY PROGRAM, IN A SANDBOX (cutbox-rows.mjs): the forced cells as the released guide's own fill.sh prints them over the translation 8ad17640dc202245… (all of the seat's roots in one cut). By AI agents, Wed Nov 11 2026. No macro, syntax, notation, axiom, sorry.
-/
import Derived.Test.YtbobkddnaggmeaaChecked
import GoSem.Claim
import GoSem.ClaimJoined
import GoSem.ClaimMapViews
import Derived.JoinedTies
import Derived.KernelRfl
namespace Go.Proofs.Ytbobkddnaggmeaa
/- THE CELL 'sum', in the pinned program and in every row, IS THE sha256 OF THE DUMP (.gsa) THAT YtbobkddnaggmeaaProg.lean LOADS. Nothing in Lean hashes anything: it is a label: what it is worth is what the hold of that sum in a sandbox is worth. -/
noncomputable def Try.pinned : Pinned := { name := "ytbobkddnaggmeaa", sum := "8ad17640dc20224583261f9e0dc4d5823aa74c007415a6e94f12890da66558e6", checked := Try.checked }
namespace Rows
def none {H : Type} : Left H := { results := [], args := [] }

/-- 'relictlaw14.KindJoins': WHATEVER THE INPUT: true; the input reads as it did. -/
def kindJoinsSpec : ChangeSpec := { name := "kindJoins", fn := fun _ => fun
  | [d1, d2, d3] => { results := [.lit (.bool true)], args := [d1, d2, d3] }
  | _ => none }
def kindJoinsRow : OpenClaim := { program := "ytbobkddnaggmeaa", sum := "8ad17640dc20224583261f9e0dc4d5823aa74c007415a6e94f12890da66558e6", func := "relict/relictlaw14.KindJoins", spec := "kindJoins", apart := false }
def KindJoinsSaid : Prop := kindJoinsRow.holds Try.pinned (OpenSpec.ofChange kindJoinsSpec)

/-- ITS FALSE NEIGHBOUR: 'it returns false'. Refute it at one input. -/
def kindJoinsWrong : ChangeSpec := { name := "kindJoins", fn := fun _ => fun
  | [d1, d2, d3] => { results := [.lit (.bool false)], args := [d1, d2, d3] }
  | _ => none }
def KindJoinsWrongFalsely : Prop := kindJoinsRow.holds Try.pinned (OpenSpec.ofChange kindJoinsWrong)

/-- 'relictlaw14.KindSplits': WHATEVER THE INPUT: true; the input reads as it did. -/
def kindSplitsSpec : ChangeSpec := { name := "kindSplits", fn := fun _ => fun
  | [d1, d2, d3] => { results := [.lit (.bool true)], args := [d1, d2, d3] }
  | _ => none }
def kindSplitsRow : OpenClaim := { program := "ytbobkddnaggmeaa", sum := "8ad17640dc20224583261f9e0dc4d5823aa74c007415a6e94f12890da66558e6", func := "relict/relictlaw14.KindSplits", spec := "kindSplits", recurses := true, loops := true, apart := false }
def KindSplitsSaid : Prop := kindSplitsRow.holds Try.pinned (OpenSpec.ofChange kindSplitsSpec)

/-- ITS FALSE NEIGHBOUR: 'it returns false'. Refute it at one input. -/
def kindSplitsWrong : ChangeSpec := { name := "kindSplits", fn := fun _ => fun
  | [d1, d2, d3] => { results := [.lit (.bool false)], args := [d1, d2, d3] }
  | _ => none }
def KindSplitsWrongFalsely : Prop := kindSplitsRow.holds Try.pinned (OpenSpec.ofChange kindSplitsWrong)

/-- 'relictlaw14.KindTuples': WHATEVER THE INPUT: true; the input reads as it did. -/
def kindTuplesSpec : ChangeSpec := { name := "kindTuples", fn := fun _ => fun
  | [d1, d2] => { results := [.lit (.bool true)], args := [d1, d2] }
  | _ => none }
def kindTuplesRow : OpenClaim := { program := "ytbobkddnaggmeaa", sum := "8ad17640dc20224583261f9e0dc4d5823aa74c007415a6e94f12890da66558e6", func := "relict/relictlaw14.KindTuples", spec := "kindTuples", apart := false }
def KindTuplesSaid : Prop := kindTuplesRow.holds Try.pinned (OpenSpec.ofChange kindTuplesSpec)

/-- ITS FALSE NEIGHBOUR: 'it returns false'. Refute it at one input. -/
def kindTuplesWrong : ChangeSpec := { name := "kindTuples", fn := fun _ => fun
  | [d1, d2] => { results := [.lit (.bool false)], args := [d1, d2] }
  | _ => none }
def KindTuplesWrongFalsely : Prop := kindTuplesRow.holds Try.pinned (OpenSpec.ofChange kindTuplesWrong)

/-- 'relictlaw14.KindNone': WHATEVER THE INPUT: true; the input reads as it did. -/
def kindNoneSpec : ChangeSpec := { name := "kindNone", fn := fun _ => fun
  | [d1, d2] => { results := [.lit (.bool true)], args := [d1, d2] }
  | _ => none }
def kindNoneRow : OpenClaim := { program := "ytbobkddnaggmeaa", sum := "8ad17640dc20224583261f9e0dc4d5823aa74c007415a6e94f12890da66558e6", func := "relict/relictlaw14.KindNone", spec := "kindNone", apart := false }
def KindNoneSaid : Prop := kindNoneRow.holds Try.pinned (OpenSpec.ofChange kindNoneSpec)

/-- ITS FALSE NEIGHBOUR: 'it returns false'. Refute it at one input. -/
def kindNoneWrong : ChangeSpec := { name := "kindNone", fn := fun _ => fun
  | [d1, d2] => { results := [.lit (.bool false)], args := [d1, d2] }
  | _ => none }
def KindNoneWrongFalsely : Prop := kindNoneRow.holds Try.pinned (OpenSpec.ofChange kindNoneWrong)

/- THE SECOND FORM. 'bulk': how many values and letters a reading holds, each counted each time it is reached (what is shared counts as often as it is met; a slice's spare places count too). A statement '..UptoSaid' is the law's where the arguments, and the package variables that the reading takes, are together of bulk at most 1048576: NARROWER than '..Said'. Prove '..Said' where nothing that the law and all that it calls make is longer than what came in: it says more and counts as full. Else prove '..UptoSaid'. A law counts once. -/
mutual
def uptoBulk {H : Type} : DataW H → Nat
  | .lit (.string bytes) => bytes.length + 1
  | .lit _ => 1
  | .nil => 1
  | .ptr d => uptoBulk d + 1
  | .slice elems spare => uptoBulkAll elems + uptoBulkAll spare + 1
  | .agg parts => uptoBulkAll parts + 1
  | .iface _ d => uptoBulk d + 1
  | .map entries => uptoBulkEntries entries + 1
  | .held _ => 1
def uptoBulkAll {H : Type} : List (DataW H) → Nat
  | [] => 0
  | d :: r => uptoBulk d + uptoBulkAll r
def uptoBulkEntries {H : Type} : List (Lit × DataW H) → Nat
  | [] => 0
  | x :: r => uptoBulkEntry x + uptoBulkEntries r
def uptoBulkEntry {H : Type} : Lit × DataW H → Nat
  | (.string bytes, d) => bytes.length + uptoBulk d + 1
  | (_, d) => uptoBulk d + 1
 end
def uptoSmall : (H : Type) → List (DataW H) → Bool := fun _ ds => decide (uptoBulkAll ds ≤ 1048576)
def OpenSpec.upto (s : _root_.Go.ChangeSpec) : _root_.Go.OpenSpec := { _root_.Go.OpenSpec.ofChange s with cond := some uptoSmall }

/-- 'relictlaw14.KindJoins', WHERE WHAT IT READS IS OF BULK AT MOST 1048576: true; the input reads as it did. -/
def kindJoinsUptoRow : OpenClaim := { program := "ytbobkddnaggmeaa", sum := "8ad17640dc20224583261f9e0dc4d5823aa74c007415a6e94f12890da66558e6", func := "relict/relictlaw14.KindJoins", spec := "kindJoins", apart := false, narrowed := true }
def KindJoinsUptoSaid : Prop := kindJoinsUptoRow.holds Try.pinned (OpenSpec.upto kindJoinsSpec)

/-- 'relictlaw14.KindSplits', WHERE WHAT IT READS IS OF BULK AT MOST 1048576: true; the input reads as it did. -/
def kindSplitsUptoRow : OpenClaim := { program := "ytbobkddnaggmeaa", sum := "8ad17640dc20224583261f9e0dc4d5823aa74c007415a6e94f12890da66558e6", func := "relict/relictlaw14.KindSplits", spec := "kindSplits", recurses := true, loops := true, apart := false, narrowed := true }
def KindSplitsUptoSaid : Prop := kindSplitsUptoRow.holds Try.pinned (OpenSpec.upto kindSplitsSpec)

/-- 'relictlaw14.KindTuples', WHERE WHAT IT READS IS OF BULK AT MOST 1048576: true; the input reads as it did. -/
def kindTuplesUptoRow : OpenClaim := { program := "ytbobkddnaggmeaa", sum := "8ad17640dc20224583261f9e0dc4d5823aa74c007415a6e94f12890da66558e6", func := "relict/relictlaw14.KindTuples", spec := "kindTuples", apart := false, narrowed := true }
def KindTuplesUptoSaid : Prop := kindTuplesUptoRow.holds Try.pinned (OpenSpec.upto kindTuplesSpec)

/-- 'relictlaw14.KindNone', WHERE WHAT IT READS IS OF BULK AT MOST 1048576: true; the input reads as it did. -/
def kindNoneUptoRow : OpenClaim := { program := "ytbobkddnaggmeaa", sum := "8ad17640dc20224583261f9e0dc4d5823aa74c007415a6e94f12890da66558e6", func := "relict/relictlaw14.KindNone", spec := "kindNone", apart := false, narrowed := true }
def KindNoneUptoSaid : Prop := kindNoneUptoRow.holds Try.pinned (OpenSpec.upto kindNoneSpec)

end Rows
end Go.Proofs.Ytbobkddnaggmeaa
