/- A part of the proof: a logic proved sound over the model; contracts; plain laws. -/
import Derived.Test.YteeaefidpkifbaaNP
import Derived.Test.YteeaefidpkifbaaGE
import Derived.Test.YteeaefidpkifbaaProg
import Derived.KernelRfl
set_option linter.all false
open Go Go.Proofs
namespace GoL
def betw (n a b:Int):Bool:=if decide (n≥a)=true then decide (n≤b) else false
def notI (x:Int):Int:=bits .xor .i64 (-1) x
def b62:List V→(V→Prop)→Prop
 |[.int .i64 m],k=>k (.agg [.int .i64 m,.int .i64 (-1)])
 |_,_=>False
def sp62:SpT:=zM
def b58:List V→(V→Prop)→Prop
 |[.int .i64 n,.int .i64 a,.int .i64 b],k=>k (.bool (betw n a b))
 |_,_=>False
def sp58:SpT:=zM
def b82:List V→(V→Prop)→Prop
 |[.agg [.int .i64 m,.int .i64 a],.int .i64 x],k=>k (.agg [.int .i64 (meet m a (notI x)).1,.int .i64 (meet m a (notI x)).2])
 |_,_=>False
def sp82:SpT:=zI 60 b60 (zM)
def refF (f:Nat→Int×Int) (tg n m a:Int):Nat→Int×Int:=if (tg==3)=true then putF f tg n m a else if (tg==4)=true then putF f tg n m a else f
def refZ (fr:Bool) (ys:List V) (tg n m a:Int):List V:=if (tg==3)=true then putZ fr ys tg n m a else if (tg==4)=true then putZ fr ys tg n m a else ys
def sp81:SpT:=zI 91 b91 zM
def b81:List V→(V→Prop)→Prop
 |[.agg [.agg X,.bool fr,.list false ys,.int .i64 r,.list false ts],.agg [.int .i64 tg,.int .i64 n,.list false ls],.agg [.int .i64 m,.int .i64 a]],k=>SOk X ys ts∧∃f,X=arrF 16 f∧∀g,g=refF f tg n m a→∀zs:List V,zs=refZ fr ys tg n m a→k (.agg [.agg (arrF 16 g),.bool fr,.list false zs,.int .i64 r,.list false ts])
 |_,_=>False
def idxI:List V→Int→Int→Int
 | .int .i64 x::r,n,i=>if (n==x)=true then i else idxI r n (i+1)
 |_,_,_=>-1
def sp97:SpT:=zM
def b97:List V→(V→Prop)→Prop
 |[.list false ts,.int .i64 n],k=>NLs ts∧ts.length≤100000∧k (.int .i64 (idxI ts n 0))
 |_,_=>False
def ent97:List V→List Blk→KK→Prop
 |[.list false ts,.int .i64 n,.int .i64 l,.int .i64 i],[],K=>l=ts.length∧NLs ts∧ts.length≤100000∧i=0∧(idxI ts n 0=-1→K (.exit 0) 1000 [] [])∧(∀j,idxI ts n 0=j→j≠-1→K .ret 1000 [(4,.int .i64 j)] [])
 |_,_,_=>False
def ls97:LsT:=lsAdd 0 1000 [0,1,7,8] [] ent97 noLs
def memI (ts:List V) (n:Int):Bool:=decide (idxI ts n 0≥0)
def sp90:SpT:=zI 97 b97 zM
def b90:List V→(V→Prop)→Prop
 |[.list false ts,.int .i64 n],k=>NLs ts∧ts.length≤100000∧k (.bool (memI ts n))
 |_,_=>False
def ends97_0:EndsL:=⟨1000,[0,1,7,8],[],0,1000,[],[],[4],[]⟩
def sp77:SpT:=zM
def b77:List V→(V→Prop)→Prop
 |[.list false ys],k=>KLs ys∧ys.length≤1000∧∀zs:List V,zs=ys→k (.list false zs)
 |_,_=>False
def sp84:SpT:=zM
def b84:List V→(V→Prop)→Prop
 |[.list false ts],k=>NLs ts∧ts.length≤1000∧∀zs:List V,zs=ts→k (.list false zs)
 |_,_=>False
def h77:HBody:=fun heads rest H1 id k=>match heads,rest with
 |[],[.list false ys]=>KLs ys∧ys.length≤1000∧ys≠[]∧∀zs:List V,zs=ys→k (.sl id zs.length) [(id,⟨some 52,false,.agg zs⟩)]
 |_,_=>False
def rep0 (n:Int):List V:=List.replicate n.toNat (.agg [.int .i64 0,.int .i64 (-1)])
def b76:List V→(V→Prop)→Prop
 |[.list false xs,.int .i64 n],k=>xs=[.agg [.int .i64 0,.int .i64 (-1)]]∧0≤n∧n≤100∧∀zs:List V,zs=rep0 n→k (.list false zs)
 |_,_=>False
end GoL
