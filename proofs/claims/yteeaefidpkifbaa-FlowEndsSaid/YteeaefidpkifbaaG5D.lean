/- A part of the proof: a logic proved sound over the model; contracts; plain laws. -/
import Derived.Test.YteeaefidpkifbaaG4P
import Derived.Test.YteeaefidpkifbaaProg
import Derived.KernelRfl
set_option linter.all false
open Go Go.Proofs
namespace GoL
def doesG (l:LK):LK:=
 if (if (if (l.op==1)=true then true else (l.op==2))=true then true else (l.op==51))=true then l
 else if (l.op==5)=true then edge1 l l.s (nA l 0)
 else if decide (l.op≥48)=true then srcL l l.ag
 else if (if decide (l.op≥6)=true then decide (l.op≤11) else false)=true then callsG l
 else if (if decide (l.op≥12)=true then decide (l.op≤16) else false)=true then framesG l
 else if (if decide (l.op≥21)=true then decide (l.op≤33) else false)=true then testsG l
 else if (if decide (l.op≥35)=true then decide (l.op≤37) else false)=true then reckonsG l
 else if (if decide (l.op≥38)=true then decide (l.op≤42) else false)=true then yA l
 else if (l.op==45)=true then zX l
 else if (if (l.op==46)=true then true else (l.op==47))=true then zX l
 else makesG l
def lkN (l:LK):V:=.agg [mdV l.m,.agg [.int .i64 l.op,.list false l.ag],fsV l.s,fsV l.o,.nils,.bool l.g,.bool l.rt]
def DOk (l:LK):Prop:=GOk l∧1≤l.op∧l.op≤51∧l.op≠3∧l.s.ts.length≤900
def hbD:HBody:=fun hvc rest H1 id k=>match hvc with
 |[.ptr c 0 []]=>match rest with
  |[]=>match H1 c with
   |some ⟨none,false,t⟩=>match Nat.beq c id with
    |false=>∃l:LK,t=lkN l∧l.es=[]∧DOk l∧∀l',l'=doesG l→k (.tup []) [(c,⟨none,false,lkV l' id⟩),(id,⟨some 79,false,.agg l'.es⟩)]
    |true=>False
   |_=>False
  |_=>False
 |_=>False
noncomputable def effL (m:MD) (op:Int) (ag:List V) (s:FS):LK:=throwsG (doesG ⟨m,op,ag,s,s,[], !endS op,true⟩)
def zFS:FS:=⟨zF,false,[],0,[]⟩
noncomputable def effOk (m:MD) (op:Int) (ag:List V) (s:FS):Bool:=if fitsG op ag=true then (if (op==3)=true then false else (effL m op ag s).rt) else false
noncomputable def effO (m:MD) (op:Int) (ag:List V) (s:FS):FS:=if effOk m op ag s=true then (if (effL m op ag s).g=true then (effL m op ag s).o else zFS) else zFS
noncomputable def effE (m:MD) (op:Int) (ag:List V) (s:FS):List V:=if effOk m op ag s=true then (effL m op ag s).es else []
noncomputable def effG (m:MD) (op:Int) (ag:List V) (s:FS):Bool:=if effOk m op ag s=true then (effL m op ag s).g else false
def sp35:SpT:=zQ 46 1 (hbL s46) (zQ 47 1 hbN (zQ 48 1 (hbL s48) (zQ 49 1 (hbL s49) (zQ 50 1 (hbL s50) (zQ 51 1 (hbL s51) (zQ 52 1 (hbL s52) (zQ 53 1 (hbL s53) (zQ 54 1 (hbL s54) (zQ 55 1 (hbL s55) (zM))))))))))
def sp26:SpT:=zI 33 b33g (zI 34 b34 (zQ 35 1 hbD (zQ 36 1 (hbL s36) zM)))
end GoL
