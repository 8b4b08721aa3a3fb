/- A part of the proof: a logic for programs of this kind, proved sound over the model; contracts of functions; plain laws. -/
import Derived.Test.YtilnfaogokjhlaaG4P
import Derived.Test.YtilnfaogokjhlaaProg
import Derived.KernelRfl
set_option linter.all false
open Go Go.Proofs
namespace GoL
set_option linter.unusedVariables false
set_option linter.unusedSimpArgs false
def doesG (l : LK) : LK :=
  if (if (if (l.op == 1) = true then true else (l.op == 2)) = true then true else (l.op == 51)) = true then l
  else if (l.op == 5) = true then edge1 l l.s (nA l 0)
  else if decide (l.op ≥ 48) = true then srcL l l.ag
  else if (if decide (l.op ≥ 6) = true then decide (l.op ≤ 11) else false) = true then callsG l
  else if (if decide (l.op ≥ 12) = true then decide (l.op ≤ 16) else false) = true then framesG l
  else if (if decide (l.op ≥ 21) = true then decide (l.op ≤ 33) else false) = true then testsG l
  else if (if decide (l.op ≥ 35) = true then decide (l.op ≤ 37) else false) = true then reckonsG l
  else if (if decide (l.op ≥ 38) = true then decide (l.op ≤ 42) else false) = true then binariesG l
  else if (l.op == 45) = true then triesG l
  else if (if (l.op == 46) = true then true else (l.op == 47)) = true then triesG l
  else makesG l
def lkN (l : LK) : V := .agg [mdV l.m, .agg [.int .i64 l.op, .list false l.ag], fsV l.s, fsV l.o, .nils, .bool l.g, .bool l.rt]
def DOk (l : LK) : Prop := GOk l ∧ 1 ≤ l.op ∧ l.op ≤ 51 ∧ l.op ≠ 3 ∧ l.s.ts.length ≤ 900
def hbD : HBody := fun hvc rest H1 id k => match hvc with
  | [.ptr c 0 []] => match rest with
    | [] => match H1 c with
      | some ⟨none, false, t⟩ => match Nat.beq c id with
        | false => ∃ l : LK, t = lkN l ∧ l.es = [] ∧ DOk l ∧ ∀ l', l' = doesG l → k (.tup []) [(c, ⟨none, false, lkV l' id⟩), (id, ⟨some 57, false, .agg l'.es⟩)]
        | true => False
      | _ => False
    | _ => False
  | _ => False
noncomputable def effL (m : MD) (op : Int) (ag : List V) (s : FS) : LK := throwsG (doesG ⟨m, op, ag, s, s, [], !endS op, true⟩)
def zFS : FS := ⟨zF, false, [], 0, []⟩
noncomputable def effOk (m : MD) (op : Int) (ag : List V) (s : FS) : Bool := if fitsG op ag = true then (if (op == 3) = true then false else (effL m op ag s).rt) else false
noncomputable def effO (m : MD) (op : Int) (ag : List V) (s : FS) : FS := if effOk m op ag s = true then (if (effL m op ag s).g = true then (effL m op ag s).o else zFS) else zFS
noncomputable def effE (m : MD) (op : Int) (ag : List V) (s : FS) : List V := if effOk m op ag s = true then (effL m op ag s).es else []
noncomputable def effG (m : MD) (op : Int) (ag : List V) (s : FS) : Bool := if effOk m op ag s = true then (effL m op ag s).g else false
def sp21 : SpT := shAdd 33 1 (hbL s33) (shAdd 34 1 hbN (shAdd 35 1 (hbL s35) (shAdd 36 1 (hbL s36) (shAdd 37 1 (hbL s37) (shAdd 38 1 (hbL s38) (shAdd 39 1 (hbL s39) (shAdd 40 1 (hbL s40) (shAdd 41 1 (hbL s41) (shAdd 42 1 (hbL s42) (spNil))))))))))
def sp7 : SpT := spAdd 19 b19g (spAdd 20 b20 (shAdd 21 1 hbD (shAdd 22 1 (hbL s22) spNil)))
end GoL
