/- A part of the proof: a logic proved sound over the model; contracts; plain laws. -/
import Derived.Test.YteeaefidpkifbaaOP
import Derived.Test.YteeaefidpkifbaaVA
import Derived.Test.YteeaefidpkifbaaProg
import Derived.KernelRfl
set_option linter.all false
open Go Go.Proofs
namespace GoL
def made (m a:Int):Int×Int:=⟨bits .and .i64 m 511,if (bits .and .i64 m 511 != 16) then (if (bits .and .i64 m 511 != 256) then -1 else (if decide (a< -1) then -1 else a)) else (if decide (a< -1) then -1 else a)⟩
def meet (m a x:Int):Int×Int:=made (bits .and .i64 (made m a).1 x) (made m a).2
def plain (m a:Int):Bool:=if ((made m a).1 != 0) then (bits .andNot .i64 (made m a).1 127==0) else false
def alikeK (m a n b:Int):Bool:=((meet m a (-1)).1==(meet n b (-1)).1&&(meet m a (-1)).2==(meet n b (-1)).2)
def KLs (ys:List V):Prop:=∀v∈ys,∃m a:Int,v=.agg [.int .i64 m,.int .i64 a]
def b64:List V→(V→Prop)→Prop
 |[.int .i64 m,.int .i64 a],k=>k (.agg [.int .i64 (made m a).1,.int .i64 (made m a).2])
 |_,_=>False
def sp64:SpT:=zM
def b63:List V→(V→Prop)→Prop
 |[.agg [.int .i64 m,.int .i64 a]],k=>k (.agg [.int .i64 (made m a).1,.int .i64 (made m a).2])
 |_,_=>False
def sp63:SpT:=zI 64 b64 (zM)
def b60:List V→(V→Prop)→Prop
 |[.agg [.int .i64 m,.int .i64 a],.int .i64 x],k=>k (.agg [.int .i64 (meet m a x).1,.int .i64 (meet m a x).2])
 |_,_=>False
def sp60:SpT:=zI 63 b63 (zI 64 b64 (zM))
def b72:List V→(V→Prop)→Prop
 |[.agg [.int .i64 m,.int .i64 a]],k=>k (.bool (plain m a))
 |_,_=>False
def sp72:SpT:=zI 63 b63 (zM)
def b65:List V→(V→Prop)→Prop
 |[.agg [.int .i64 m,.int .i64 a]],k=>k (.agg [.int .i64 (meet m a (-1)).1,.int .i64 (meet m a (-1)).2])
 |_,_=>False
def sp65:SpT:=zI 60 b60 (zM)
def b43:List V→(V→Prop)→Prop
 |[.agg [.int .i64 m,.int .i64 a],.agg [.int .i64 n,.int .i64 b]],k=>k (.bool (alikeK m a n b))
 |_,_=>False
def sp43:SpT:=zI 65 b65 (zM)
def b30:List V→(V→Prop)→Prop
 |[],k=>k (.agg [.int .i64 0,.int .i64 (-1)])
 |_,_=>False
def sp30:SpT:=zM
def b87:List V→(V→Prop)→Prop
 |[.agg [.int .i64 m,.int .i64 a]],k=>k (.bool (alikeK m a 0 (-1)))
 |_,_=>False
def sp87:SpT:=zI 30 b30 (zI 43 b43 (zM))
def zF:Nat→Int×Int:=fun _=>(0,0)
def zS:V:=.agg [.agg (arrF 16 zF),.bool false,.nils,.int .i64 0,.nils]
def entF (n:Int):Nat→Int×Int:=fun i=>if (i:Int)<n then (127,-1) else (0,-1)
def setF (f:Nat→Int×Int) (j:Nat) (k:Int×Int):Nat→Int×Int:=fun i=>if i=j then k else f i
def NLs (ts:List V):Prop:=∀v∈ts,∃n:Int,v=.int .i64 n
def ent22:List V→List Blk→KK→Prop
 |[.int .i64 n,.ptr 1000 0 [],.ptr 1001 0 [],.int .i64 i],[⟨none,false,t0⟩,⟨none,false,.agg [.agg X,.bool false,.nils,.int .i64 r,.nils]⟩],K=>i=0∧t0=zS∧r=0∧(∃f,X=arrF 16 f)∧K (.exit 0) 1003 [(2,.ptr 1000 0 []),(3,.ptr 1001 0 [])] [(1000,⟨none,false,zS⟩),(1001,⟨none,false,.agg [.agg (arrF 16 (entF n)),.bool false,.nils,.int .i64 0,.nils]⟩)]
 |_,_,_=>False
def ls22:LsT:=lsAdd 0 1003 [0,2,3,5] [1000,1001] ent22 noLs
def sp22:SpT:=zI 30 b30 zM
def b22:List V→(V→Prop)→Prop
 |[.int .i64 n],k=>∀f,f=entF n→k (.agg [.agg (arrF 16 f),.bool false,.list false [],.int .i64 0,.list false []])
 |_,_=>False
def ends22_0:EndsL:=⟨1003,[0,2,3,5],[1000,1001],0,1003,[2,3],[1000,1001],[],[]⟩
def SOk (X ys ts:List V):Prop:=(∃f,X=arrF 16 f)∧KLs ys∧ys.length≤1000∧NLs ts∧ts.length≤1000
def sp40:SpT:=zM
def b40:List V→(V→Prop)→Prop
 |[.agg [.agg X,.bool fr,.list false ys,.int .i64 r,.list false ts]],k=>SOk X ys ts∧k (.agg [.agg X,.bool fr,.list false ys,.int .i64 r,.list false ts])
 |_,_=>False
def slotB (fr:Bool) (ys:List V) (n:Int):Bool:=if fr then (if decide (n≥0) then decide (n<ys.length) else false) else false
def sp93:SpT:=zM
def b93:List V→(V→Prop)→Prop
 |[.agg [.agg X,.bool fr,.list false ys,.int .i64 r,.list false ts],.int .i64 n],k=>SOk X ys ts∧k (.bool (slotB fr ys n))
 |_,_=>False
def cutF (f:Nat→Int×Int) (n:Int):Nat→Int×Int:=fun i=>if (i:Int)<n then f i else (0,-1)
def sp61:SpT:=zI 40 b40 (zI 30 b30 zM)
def ent61:List V→List Blk→KK→Prop
 |[.ptr 1000 0 [],.ptr 1001 0 [],.int .i64 i],[⟨none,false,.agg [.agg X,.bool fr,.list false ys,.int .i64 r,.list false ts]⟩,⟨none,false,t0⟩],K=>0≤i∧t0=zS∧∃f,X=arrF 16 f∧K (.exit 0) 1007 [(2,.ptr 1000 0 []),(4,.ptr 1001 0 [])] [(1000,⟨none,false,.agg [.agg (arrF 16 (cutF f i)),.bool fr,.list false ys,.int .i64 r,.list false ts]⟩),(1001,⟨none,false,zS⟩)]
 |_,_,_=>False
def ls61:LsT:=lsAdd 0 1007 [2,4,5] [1000,1001] ent61 noLs
def b61:List V→(V→Prop)→Prop
 |[.agg [.agg X,.bool fr,.list false ys,.int .i64 r,.list false ts],.int .i64 n],k=>∃f,X=arrF 16 f∧SOk X ys ts∧∀g,g=cutF f (if 0<(if 16<n then 16 else n) then (if 16<n then 16 else n) else 0)→k (.agg [.agg (arrF 16 g),.bool fr,.list false ys,.int .i64 r,.list false ts])
 |_,_=>False
def ends61_0:EndsL:=⟨1007,[2,4,5],[1000,1001],0,1007,[2,4],[1000,1001],[],[]⟩
def goodK (m a:Int):Bool:=if plain m a then true else (meet m a (-1)).1==128
def goods:List V→Bool
 |[]=>true
 | .agg [.int .i64 m,.int .i64 a]::r=>goodK m a&&goods r
 |_::_=>false
def sp75:SpT:=zI 72 b72 (zI 65 b65 zM)
def ent75:List V→List Blk→KK→Prop
 |[.list false xs,.int .i64 n,.int .i64 i],[],K=>i=0∧n=xs.length∧xs.length≤100000∧KLs xs∧(goods xs=true→K (.exit 0) 1013 [] [])∧(goods xs=false→K .ret 1013 [(4,.gd true (.bool false))] [])
 |_,_,_=>False
def ls75:LsT:=lsAdd 0 1013 [15,16,17] [] ent75 noLs
def liveB (f:Nat→Int×Int) (n:Int):Bool:=if decide (n<0) then false else if decide (n>16) then false else goods ((arrF 16 f).take n.toNat)
def b75:List V→(V→Prop)→Prop
 |[.agg [.agg X,.bool fr,.list false ys,.int .i64 r,.list false ts],.int .i64 n],k=>∃f,X=arrF 16 f∧k (.bool (liveB f n))
 |_,_=>False
def ends75_0:EndsL:=⟨1013,[15,16,17],[],0,1013,[],[],[4],[]⟩
def idxF:List V→Int→Int
 |[],_=>-1
 | .agg [.int .i64 m,.int .i64 a]::r,i=>if alikeK m a 0 (-1)=true then i else idxF r (i+1)
 |_::_,_=>-1
def sp92:SpT:=zI 87 b87 zM
def ent92:List V→List Blk→KK→Prop
 |[.list false ys,.fn 87 [],.int .i64 n,.int .i64 i],[],K=>i=0∧n=ys.length∧ys.length≤100000∧KLs ys∧(idxF ys 0=-1→K (.exit 0) 1004 [] [])∧(0≤idxF ys 0→K .ret 1004 [(4,.int .i64 (idxF ys 0))] [])
 |_,_,_=>False
def ls92:LsT:=lsAdd 0 1004 [0,1,7,8] [] ent92 noLs
def b92:List V→(V→Prop)→Prop
 |[.list false ys,.fn 87 []],k=>KLs ys∧ys.length≤100000∧k (.int .i64 (idxF ys 0))
 |_,_=>False
def sp86:SpT:=zI 92 b92 zM
def b86:List V→(V→Prop)→Prop
 |[.list false ys,.fn 87 []],k=>KLs ys∧ys.length≤100000∧k (.bool (decide (idxF ys 0≥0)))
 |_,_=>False
def readyB (fr:Bool) (ys:List V):Bool:=if fr=true then !decide (idxF ys 0≥0) else true
def sp59:SpT:=zI 86 b86 zM
def b59:List V→(V→Prop)→Prop
 |[.agg [.agg X,.bool fr,.list false ys,.int .i64 r,.list false ts]],k=>SOk X ys ts∧k (.bool (readyB fr ys))
 |_,_=>False
def ends92_0:EndsL:=⟨1004,[0,1,7,8],[],0,1004,[],[],[4],[]⟩
def maskOk:V→Bool
 | .agg [.int .i64 m,.int .i64 a]=>bits .and .i64 (meet m a (-1)).1 256==0
 |_=>false
def putOk (fr:Bool) (ys:List V) (n:Int):Bool:=if slotB fr ys n=true then maskOk (getV ys n) else false
def putY (ys:List V) (n m a:Int):List V:=ys.set n.toNat (.agg [.int .i64 (meet m a (-1)).1,.int .i64 (meet m a (-1)).2])
def h40:HBody:=fun heads rest H1 id k=>match heads,rest with
 |[],[.agg [.agg X,.bool fr,.list false ys,.int .i64 r,.list false ts]]=>SOk X ys ts∧∀zs:List V,zs=ys→k (.agg [.agg X,.bool fr,.sl id zs.length,.int .i64 r,.list false ts]) [(id,⟨some 52,false,.agg zs⟩)]
 |_,_=>False
def saidV:V→Int×Int
 | .agg [.int .i64 m,.int .i64 a]=>meet m a (-1)
 |_=>(0,-1)
def srcK (fr:Bool) (ys:List V) (n:Int):Int×Int:=if slotB fr ys n=true then saidV (getV ys n) else (0,-1)
def inX (tg n:Int):Bool:=if (tg==3)=true then (if decide (n≥0)=true then decide (n<16) else false) else false
def putF (f:Nat→Int×Int) (tg n m a:Int):Nat→Int×Int:=if inX tg n=true then setF f n.toNat (meet m a (-1)) else f
def putZ (fr:Bool) (ys:List V) (tg n m a:Int):List V:=if inX tg n=true then ys else if (tg==4)=true then (if putOk fr ys n=true then putY ys n m a else ys) else ys
def putO (fr:Bool) (ys:List V) (tg n:Int):Bool:=if inX tg n=true then true else if (tg==4)=true then putOk fr ys n else false
def sp91:SpT:=zQ 40 0 h40 (zI 93 b93 (zI 65 b65 zM))
def b91:List V→(V→Prop)→Prop
 |[.agg [.agg X,.bool fr,.list false ys,.int .i64 r,.list false ts],.agg [.int .i64 tg,.int .i64 n,.list false ls],.agg [.int .i64 m,.int .i64 a]],k=>SOk X ys ts∧∃f,X=arrF 16 f∧∀g,g=putF f tg n m a→∀zs:List V,zs=putZ fr ys tg n m a→∀ok:Bool,ok=putO fr ys tg n→k (.tup [.agg [.agg (arrF 16 g),.bool fr,.list false zs,.int .i64 r,.list false ts],.bool ok])
 |_,_=>False
def kOf (K N:Int) (n:Nat):Int×Int:=if (K==5)=true then made 16 n else if (K==9)=true then made 256 N else if decide (K<1)=true then made 0 (-1) else if decide (K>9)=true then made 0 (-1) else made (IntKind.i64.wrap (1*2 ^ (min (IntKind.i64.wrap (K-1)).toNat 64))) (-1)
def kOfV:V→Int×Int
 | .agg [.int .i64 K,_,_,.int .i64 N,.list false ks]=>kOf K N ks.length
 |_=>(0,-1)
def srcS (f:Nat→Int×Int) (fr:Bool) (ys:List V) (ms:List V) (tg n:Int):Int×Int:=if (tg==3)=true then (if decide (n≥0)=true then (if decide (n<16)=true then meet (f n.toNat).1 (f n.toNat).2 (-1) else (0,-1)) else (0,-1)) else if (tg==4)=true then srcK fr ys n else if (tg==1)=true then (1,-1) else if (tg==2)=true then (if (n==0)=true then (4,-1) else (2,-1)) else if (tg==6)=true then (if decide (n≥0)=true then (if decide (n<ms.length)=true then kOfV (getV ms n) else (0,-1)) else (0,-1)) else (0,-1)
def b94:List V→(V→Prop)→Prop
 |[.agg [.int .i64 K,.agg [.bool nb,.list false l],.str q,.int .i64 N,.list false ks]],k=>k (.agg [.int .i64 (kOf K N ks.length).1,.int .i64 (kOf K N ks.length).2])
 |_,_=>False
def sp94:SpT:=zI 64 b64 zM
def LitL (ms:List V):Prop:=∀v∈ms,∃(K:Int) (nb:Bool) (l:List V) (q:List UInt8) (N:Int) (ks:List V),v=.agg [.int .i64 K,.agg [.bool nb,.list false l],.str q,.int .i64 N,.list false ks]
def sp88:SpT:=zI 65 b65 (zI 93 b93 (zI 30 b30 (zI 94 b94 zM)))
def b88:List V→(V→Prop)→Prop
 |[.agg [.agg X,.bool fr,.list false ys,.int .i64 r,.list false ts],.agg [.int .i64 tg,.int .i64 n,.list false ls],.list false ms],k=>LitL ms∧SOk X ys ts∧∃f,X=arrF 16 f∧∀q:Int×Int,q=srcS f fr ys ms tg n→k (.agg [.int .i64 q.1,.int .i64 q.2])
 |_,_=>False
end GoL
