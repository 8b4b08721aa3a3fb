/- A part of the proof: a logic proved sound over the model; contracts; plain laws. -/
import Derived.Test.YteeaefidpkifbaaG5P
import Derived.Test.YteeaefidpkifbaaF3P
import Derived.Test.YteeaefidpkifbaaGE
import Derived.Test.YteeaefidpkifbaaProg
import Derived.KernelRfl
set_option linter.all false
open Go Go.Proofs
namespace GoL
def insO:V→Int
 | .agg [.int _ op,_]=>op
 |_=>0
def insA:V→List V
 | .agg [_,.list _ ag]=>ag
 |_=>[]
def InsV (v:V):Prop:=∃(op:Int) (ag:List V),v=.agg [.int .i64 op,.list false ag]∧∀u∈ag,T28 u
def uB (l:List V):Prop:=(∀v∈l,InsV v)∧l.length≤1000000
def opA (l:List V) (i:Int):Int:=if decide (i<l.length)=true then insO (getV l i) else 0
def numA (ag:List V) (n:Int):Int:=if decide (n<ag.length)=true then numV (getV ag n) else -1
def beginsB (l:List V) (i:Int):Bool:=if (opA l i==1)=true then (opA l (i+1)==2) else false
def bodyN (l:List V):Nat→Int→Int×Bool
 |0,i=>(i,false)
 |k+1,i=>if decide (i<l.length)=true then (if beginsB l i=true then (i,true) else if (insO (getV l i)==3)=true then (i,true) else if (insO (getV l i)==2)=true then (i,false) else bodyN l k (i+1)) else (i,false)
def bodyF (l:List V) (i:Int):Int×Bool:=bodyN l (l.length-i.toNat+1) i
def tW (n:Int) (v:V):Bool:=if (insO v==1)=true then (numA (insA v) 0==n) else false
def uD (n:Int):List V→Int→Int
 |[],_=>-1
 |v::r,i=>if tW n v=true then i else uD n r (i+1)
def sp18:SpT:=zM
def b18:List V→(V→Prop)→Prop
 |[.list false l,.int .i64 i],k=>(uB l∧0≤i)∧k (.int .i64 (opA l i))
 |_,_=>False
def sp19:SpT:=zM
def b19:List V→(V→Prop)→Prop
 |[.agg [.int .i64 op,.list false ag],.int .i64 n],k=>((∀u∈ag,T28 u)∧0≤n)∧k (.int .i64 (numA ag n))
 |_,_=>False
def sp17:SpT:=zI 18 b18 zM
def b17:List V→(V→Prop)→Prop
 |[.list false l,.int .i64 i],k=>(uB l∧0≤i∧i≤1000000000)∧k (.bool (beginsB l i))
 |_,_=>False
def sp20:SpT:=zI 17 b17 zM
def b20:List V→(V→Prop)→Prop
 |[.list false l,.int .i64 i],k=>(uB l∧0≤i∧i≤1000000000)∧k (.tup [.int .i64 (bodyF l i).1,.bool (bodyF l i).2])
 |_,_=>False
def ent20:List V→List Blk→KK→Prop
 |[.list false l,.int .i64 i],[],K=>uB l∧0≤i∧i≤1000000000∧(∀j:Int,0≤j→bodyF l i=(j,false)→K (.exit 0) 1002 [(1,.int .i64 j)] [])∧(∀(j:Int) (b:Bool),bodyF l i=(j,b)→K .ret 1002 [(4,.int .i64 j),(5,.gd true (.bool b))] [])
 |_,_,_=>False
def ls20:LsT:=lsAdd 0 1002 [0,1] [] ent20 noLs
def sp38:SpT:=zI 19 b19 zM
def b38:List V→(V→Prop)→Prop
 |[.agg [.int .i64 op,.list false ag],.dptr (.int .i64 n)],k=>(∀u∈ag,T28 u)∧k (.bool (tW n (.agg [.int .i64 op,.list false ag])))
 |_,_=>False
def sp37:SpT:=zI 38 b38 zM
def b37:List V→(V→Prop)→Prop
 |[.list false l,.fn 38 [.dptr (.int .i64 n)]],k=>uB l∧k (.int .i64 (uD n l 0))
 |_,_=>False
def ent37:List V→List Blk→KK→Prop
 |[.list false l,.fn 38 [.dptr (.int .i64 n)],.int .i64 m,.int .i64 i],[],K=>uB l∧m=l.length∧i=0∧(uD n l 0=-1→K (.exit 0) 1004 [] [])∧(∀j:Int,uD n l 0=j→j≠-1→K .ret 1004 [(4,.int .i64 j)] [])
 |_,_,_=>False
def ls37:LsT:=lsAdd 0 1004 [0,1,7,8] [] ent37 noLs
def sp27:SpT:=zI 37 b37 zM
def b27:List V→(V→Prop)→Prop
 |[.list false l,.int .i64 n],k=>uB l∧k (.int .i64 (uD n l 0))
 |_,_=>False
def ends20_0:EndsL:=⟨1002,[0,1],[],0,1002,[1],[],[4,5],[]⟩
def ends37_0:EndsL:=⟨1004,[0,1,7,8],[],0,1004,[],[],[4],[]⟩
end GoL
