/- A part of the proof: a logic proved sound over the model; contracts; plain laws. -/
import Derived.Test.YteeaefidpkifbaaF3P
import Derived.Test.YteeaefidpkifbaaF2P
import Derived.Test.YteeaefidpkifbaaProg
import Derived.KernelRfl
set_option linter.all false
open Go Go.Proofs
namespace GoL
abbrev SM:=List (Int×FS)
def uZ:SM→Int→Option FS
 |[],_=>none
 |(k,s)::r,i=>if (k==i)=true then some s else uZ r i
def tL:SM→Int→FS→SM
 |[],i,s=>[(i,s)]
 |(k,t)::r,i,s=>if (k==i)=true then (i,s)::r else (k,t)::tL r i s
def tY:List Int→Int→List Int
 |[],i=>[i]
 |k::r,i=>if (k==i)=true then k::r else k::tY r i
def uS:List Int→Int→List Int
 |[],_=>[]
 |k::r,i=>if (k==i)=true then r else k::uS r i
def stV (m:SM):List V:=m.map fun p=>.agg [.int .i64 p.1,fsV p.2]
def frV (q:List Int):List V:=q.map fun k=>.agg [.int .i64 k,.bool true]
def tX (m:SM):Prop:=(∀p∈m,SOkS p.2)∧m.length≤100000
def uA (fm tm:Int) (m:SM) (q:List Int) (i:Int) (s:FS):Bool×SM×List Int:=
 if decide (i<fm)=true then (false,m,q) else if decide (i≥tm)=true then (false,m,q) else
 match uZ m i with
 |none=>(true,tL m i s,tY q i)
 |some t=>if uH t s=true then (if uQ (tH t s) t=true then (true,m,q) else (true,tL m i (tH t s),tY q i)) else (false,m,q)
def wkV (fm tm en ar:Int) (a b:Nat):V:=.agg [.agg [.int .i64 fm,.int .i64 tm,.int .i64 en,.int .i64 ar],.own 48 [.ptr a 0 [],.nilp],.own 65 [.ptr b 0 [],.nilp]]
def sp21:SpT:=zI 28 b28 (zI 29 b29 zM)
def h21:HBody:=fun hvc rest H1 id k=>match hvc with
 |[.ptr c off p]=>match off,p with
  |0,[]=>match H1 c with
   |some ⟨none,false,t⟩=>match t with
    | .agg [pt,.own 48 l1,.own 65 l2]=>match pt with
     | .agg [.int .i64 fm,.int .i64 tm,.int .i64 en,.int .i64 ar]=>match l1 with
      |[.ptr a 0 [],.nilp]=>match l2 with
       |[.ptr b 0 [],.nilp]=>match H1 a with
        |some ⟨some 48,false,.own 48 st⟩=>match H1 b with
         |some ⟨some 65,false,.own 65 fr⟩=>match rest with
          |[.int .i64 i,sv]=>match sv with
           | .agg [.agg X,.bool f,.list false ys,.int .i64 r,.list false ts]=>chkP (!Nat.beq a b) (∃(m:SM) (q:List Int) (g:Nat→Int×Int),st=stV m∧fr=frV q∧X=arrF 16 g∧tX m∧q.length≤100000∧SOkS ⟨g,f,ys,r,ts⟩∧-1≤i∧i≤1000000000∧∀z,z=uA fm tm m q i ⟨g,f,ys,r,ts⟩→k (.bool z.1) [(c,⟨none,false,wkV fm tm en ar a b⟩),(a,⟨some 48,false,.own 48 (stV z.2.1)⟩),(b,⟨some 65,false,.own 65 (frV z.2.2)⟩)])
           |_=>False
          |_=>False
         |_=>False
        |_=>False
       |_=>False
      |_=>False
     |_=>False
    |_=>False
   |_=>False
  |_,_=>False
 |_=>False
def sH (xs:List V):Prop:=(∀v∈xs,∃n:Int,v=.int .i64 n)∧xs.length≤1000000
def tJ (a:Int):List V→Int
 | .int _ x::r=>tJ (if x<a then x else a) r
 |_=>a
def uE:List V→Int
 | .int _ x::r=>tJ x r
 |_=>0
def ent23:List V→List Blk→KK→Prop
 |[.list false xs,.int .i64 a,.int .i64 i],[],K=>sH xs∧i=1∧1≤xs.length∧∀b,b=tJ a (xs.drop 1)→K (.exit 0) 1008 [(3,.int .i64 b)] []
 |_,_,_=>False
def ls23:LsT:=lsAdd 0 1008 [0,3,4] [] ent23 noLs
def b23:List V→(V→Prop)→Prop
 |[.own _ [.list false xs,.nilp]],k=>sH xs∧1≤xs.length∧k (.int .i64 (uE xs))
 |_,_=>False
def sp25:SpT:=zM
def h25:HBody:=fun hvc rest H1 id k=>match hvc with
 |[.own T l]=>match l with
  |[.ptr m off p,.nilp]=>match off,p,rest with
   |0,[],[]=>match H1 m with
    |some ⟨some E,fz,t⟩=>match Nat.beq m id with
     |false=>k (.fn 32 [.ptr id 0 []]) [(m,⟨some E,fz,t⟩),(id,⟨none,false,.own T [.ptr m 0 [],.nilp]⟩)]
     |true=>False
    |_=>False
   |_,_,_=>False
  |_=>False
 |_=>False
def ends23_0:EndsL:=⟨1008,[0,3,4],[],0,1008,[3],[],[],[]⟩
end GoL
