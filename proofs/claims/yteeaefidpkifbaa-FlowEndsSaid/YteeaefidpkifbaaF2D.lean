/- A part of the proof: a logic proved sound over the model; contracts; plain laws. -/
import Derived.Test.YteeaefidpkifbaaF1P
import Derived.Test.YteeaefidpkifbaaProg
import Derived.KernelRfl
set_option linter.all false
open Go Go.Proofs
namespace GoL
def partsN (l:List V):Nat→List V→Int→List V×Int×Bool
 |0,_,i=>([],i,false)
 |k+1,out,i=>
  if beginsB l i=false then ([],i,false)
  else if (opA l (i+2) != 1)=true then ([],i+2,false)
  else if (if decide (numA (insA (getV l (i+1))) 2<0)=true then true else decide (numA (insA (getV l (i+1))) 2≥16))=true then ([],i+1,false)
  else if (bodyF l (i+3)).2=false then ([],(bodyF l (i+3)).1,false)
  else if (insO (getV l (bodyF l (i+3)).1) != 3)=true then partsN l k (out++[.agg [.int .i64 i,.int .i64 (bodyF l (i+3)).1,.int .i64 (numA (insA (getV l (i+2))) 0),.int .i64 (numA (insA (getV l (i+1))) 2)]]) (bodyF l (i+3)).1
  else if decide ((bodyF l (i+3)).1<(l.length:Int)-1)=true then ([],(bodyF l (i+3)).1,false)
  else (out++[.agg [.int .i64 i,.int .i64 (bodyF l (i+3)).1,.int .i64 (numA (insA (getV l (i+2))) 0),.int .i64 (numA (insA (getV l (i+1))) 2)]],0,true)
def uK (l:List V):List V×Int×Bool:=partsN l (l.length+1) [] 0
def tZ (xs:List V):Prop:=∀v∈xs,∃a b c d:Int,v=.agg [.int .i64 a,.int .i64 b,.int .i64 c,.int .i64 d]
def sp9:SpT:=zI 17 b17 (zI 18 b18 (zI 19 b19 (zI 20 b20 zM)))
def b9:List V→(V→Prop)→Prop
 |[.list false l],k=>uB l∧∀p,p=uK l→k (.tup [.list false p.1,.int .i64 p.2.1,.bool p.2.2])
 |_,_=>False
def ent9:List V→List Blk→KK→Prop
 |[.list false l,.nils,.int .i64 i],[],K=>uB l∧i=0∧(∀(j:Int) (out:List V),uK l=([],j,false)→K .ret 1006 [(2,.nils),(3,.int .i64 j),(4,.gd true (.bool false))] [(1005,⟨some 37,false,.agg out⟩)])∧(∀(out:List V) (j:Int),tZ out→uK l=(out,j,true)→K .ret 1006 [(2,.sl 1005 out.length),(3,.int .i64 j),(4,.gd true (.bool true))] [(1005,⟨some 37,false,.agg out⟩)])
 |_,_,_=>False
def ls9:LsT:=lsAdd 0 1005 [0,5,6] [] ent9 noLs
def sp23:SpT:=zM
def ends9_0:EndsL:=⟨1006,[0,5,6],[1005],0,1006,[],[],[2,3,4],[1005]⟩
end GoL
