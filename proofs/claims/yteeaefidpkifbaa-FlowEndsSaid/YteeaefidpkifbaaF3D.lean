/- A part of the proof: a logic proved sound over the model; contracts; plain laws. -/
import Derived.Test.YteeaefidpkifbaaG2P
import Derived.Test.YteeaefidpkifbaaGE
import Derived.Test.YteeaefidpkifbaaProg
import Derived.KernelRfl
set_option linter.all false
open Go Go.Proofs
namespace GoL
def uM (m a n b:Int):Int×Int:=if ((made m a).1==(made 0 (-1)).1&&(made m a).2==(made 0 (-1)).2) then made 0 (-1) else
 if ((made n b).1==(made 0 (-1)).1&&(made n b).2==(made 0 (-1)).2) then made 0 (-1) else
 made (bits .or .i64 (made m a).1 (made n b).1) (if ((made m a).2==(made n b).2) then (made m a).2 else -1)
def b41:List V→(V→Prop)→Prop
 |[.agg [.int .i64 m,.int .i64 a],.agg [.int .i64 n,.int .i64 b]],k=>k (.agg [.int .i64 (uM m a n b).1,.int .i64 (uM m a n b).2])
 |_,_=>False
def sp41:SpT:=zI 63 b63 (zI 64 b64 (zM))
def uW:List V→List V→Bool
 |[],[]=>true
 | .agg [.int .i64 m,.int .i64 a]::r,.agg [.int .i64 n,.int .i64 b]::q=>alikeK m a n b&&uW r q
 |_,_=>false
def tD (f g:Nat→Int×Int):Nat→Int×Int:=fun i=>uM (f i).1 (f i).2 (g i).1 (g i).2
def uT:List V→List V→Bool
 |[],[]=>true
 | .int .i64 x::r,.int .i64 y::q=>if (x==y)=true then uT r q else false
 |_,_=>false
def sp39:SpT:=zM
def ent39:List V→List Blk→KK→Prop
 |[.list false xs,.list false ys,.int .i64 n,.int .i64 i],[],K=>i=0∧n=xs.length∧xs.length=ys.length∧xs.length≤100000∧NLs xs∧NLs ys∧(uT xs ys=true→K (.exit 0) 1009 [] [])∧(uT xs ys=false→K .ret 1009 [(4,.gd true (.bool false))] [])
 |_,_,_=>False
def ls39:LsT:=lsAdd 0 1009 [0,1,12,13] [] ent39 noLs
def b39:List V→(V→Prop)→Prop
 |[.list false xs,.list false ys],k=>NLs xs∧NLs ys∧xs.length≤100000∧k (.bool (uT xs ys))
 |_,_=>False
def sp42:SpT:=zI 43 b43 zM
def ent42:List V→List Blk→KK→Prop
 |[.list false ys,.fn 43 [],.list false xs,.int .i64 n,.int .i64 i],[],K=>i=0∧n=xs.length∧xs.length=ys.length∧xs.length≤100000∧KLs xs∧KLs ys∧(uW xs ys=true→K (.exit 0) 1009 [] [])∧(uW xs ys=false→K .ret 1009 [(6,.gd true (.bool false))] [])
 |_,_,_=>False
def ls42:LsT:=lsAdd 0 1009 [1,2,15,16,17] [] ent42 noLs
def b42:List V→(V→Prop)→Prop
 |[.list false xs,.list false ys,.fn 43 []],k=>KLs xs∧KLs ys∧xs.length≤100000∧k (.bool (uW xs ys))
 |_,_=>False
def uC:List V→List V→List V
 | .agg [.int _ m,.int _ a]::r,.agg [.int _ n,.int _ b]::q=>.agg [.int .i64 (uM m a n b).1,.int .i64 (uM m a n b).2]::uC r q
 |_,_=>[]
def uH (a b:FS):Bool:=if (a.fr != b.fr)=true then false else if (if a.fr=true then ((a.ys.length:Int) != (b.ys.length:Int)) else false)=true then false else uT a.ts b.ts
def minI (x y:Int):Int:=if y<x then y else x
def tH (a b:FS):FS:=⟨tD a.f b.f,a.fr,if a.fr=true then uC a.ys b.ys else [],minI a.rm b.rm,a.ts⟩
def zFS0:FS:=⟨zF,false,[],0,[]⟩
def tF (a b:FS):FS:=if uH a b=true then tH a b else zFS0
def uQ (a b:FS):Bool:=if (a.fr != b.fr)=true then false else if (a.rm != b.rm)=true then false else if uT a.ts b.ts=false then false else if (if a.fr=true then !uW a.ys b.ys else false)=true then false else uW (arrF 16 a.f) (arrF 16 b.f)
def sp28:SpT:=zQ 40 0 h40 (zI 39 b39 (zI 41 b41 zM))
def sp29:SpT:=zI 39 b39 (zI 42 b42 zM)
def ent28a:List V→List Blk→KK→Prop
 |[.ptr 1000 0 [],.ptr 1001 0 [],.ptr 1002 0 [],.ptr 1032 0 [],.int .i64 i],[⟨none,false,.agg [.agg X,.bool fr,.list false ys,.int .i64 rm,.list false ts]⟩,⟨none,false,.agg [.agg Y,.bool gr,.list false zs,.int .i64 sm,.list false us]⟩,⟨none,false,t2⟩,⟨none,false,.agg [.agg Z,.bool hr,.sl 1031 k,.int .i64 hm,.list false hs]⟩,⟨some 52,false,.agg ws⟩],K=>∃f g,X=arrF 16 f∧Y=arrF 16 g∧(∃h,Z=arrF 16 h)∧i=0∧t2=zS∧SOk X ys ts∧KLs zs∧KLs ws∧
   K (.exit 0) 1035 [(2,.ptr 1000 0 []),(3,.ptr 1001 0 []),(4,.ptr 1002 0 []),(6,.ptr 1032 0 [])] [(1000,⟨none,false,.agg [.agg (arrF 16 f),.bool fr,.list false ys,.int .i64 rm,.list false ts]⟩),(1001,⟨none,false,.agg [.agg (arrF 16 g),.bool gr,.list false zs,.int .i64 sm,.list false us]⟩),(1002,⟨none,false,zS⟩),(1032,⟨none,false,.agg [.agg (arrF 16 (tD f g)),.bool hr,.sl 1031 k,.int .i64 hm,.list false hs]⟩),(1031,⟨some 52,false,.agg ws⟩)]
 |_,_,_=>False
def ent28b:List V→List Blk→KK→Prop
 |[.ptr 1000 0 [],.ptr 1001 0 [],.ptr 1002 0 [],.ptr 1032 0 [],.int .i64 n,.int .i64 i],[⟨none,false,.agg [.agg X,.bool fr,.list false ys,.int .i64 rm,.list false ts]⟩,⟨none,false,.agg [.agg Y,.bool gr,.list false zs,.int .i64 sm,.list false us]⟩,⟨none,false,t2⟩,⟨none,false,.agg [.agg Z,.bool hr,q,.int .i64 hm,.list false hs]⟩,⟨some 52,false,.agg ws⟩],K=>∃f g h,X=arrF 16 f∧Y=arrF 16 g∧Z=arrF 16 h∧i=0∧t2=zS∧SOk X ys ts∧KLs zs∧KLs ws∧(match q with
   | .nils=>n=0∧K (.exit 2) 1042 [(2,.ptr 1000 0 []),(3,.ptr 1001 0 []),(4,.ptr 1002 0 []),(6,.ptr 1032 0 [])] [(1000,⟨none,false,.agg [.agg (arrF 16 f),.bool fr,.list false ys,.int .i64 rm,.list false ts]⟩),(1001,⟨none,false,.agg [.agg (arrF 16 g),.bool gr,.list false zs,.int .i64 sm,.list false us]⟩),(1002,⟨none,false,zS⟩),(1032,⟨none,false,.agg [.agg (arrF 16 h),.bool hr,.nils,.int .i64 hm,.list false hs]⟩),(1031,⟨some 52,false,.agg ws⟩)]
   | .sl 1031 k=>ws=ys∧k=ys.length∧n=ys.length∧ys.length=zs.length∧K (.exit 2) 1042 [(2,.ptr 1000 0 []),(3,.ptr 1001 0 []),(4,.ptr 1002 0 []),(6,.ptr 1032 0 [])] [(1000,⟨none,false,.agg [.agg (arrF 16 f),.bool fr,.list false ys,.int .i64 rm,.list false ts]⟩),(1001,⟨none,false,.agg [.agg (arrF 16 g),.bool gr,.list false zs,.int .i64 sm,.list false us]⟩),(1002,⟨none,false,zS⟩),(1032,⟨none,false,.agg [.agg (arrF 16 h),.bool hr,.sl 1031 k,.int .i64 hm,.list false hs]⟩),(1031,⟨some 52,false,.agg (uC ys zs)⟩)]
   |_=>False)
 |_,_,_=>False
def ls28:LsT:=lsAdd 0 1035 [2,3,4,6,38] [1000,1001,1002,1032,1031] ent28a (lsAdd 2 1042 [2,3,4,6,60,61] [1000,1001,1002,1032,1031] ent28b noLs)
def b28:List V→(V→Prop)→Prop
 |[.agg [.agg X,.bool fr,.list false ys,.int .i64 rm,.list false ts],.agg [.agg Y,.bool gr,.list false zs,.int .i64 sm,.list false us]],k=>∃f g,X=arrF 16 f∧Y=arrF 16 g∧SOkS ⟨f,fr,ys,rm,ts⟩∧SOkS ⟨g,gr,zs,sm,us⟩∧∀o,o=tF ⟨f,fr,ys,rm,ts⟩ ⟨g,gr,zs,sm,us⟩→∀ok,ok=uH ⟨f,fr,ys,rm,ts⟩ ⟨g,gr,zs,sm,us⟩→k (.tup [.agg [.agg (arrF 16 o.f),.bool o.fr,.list false o.ys,.int .i64 o.rm,.list false o.ts],.bool ok])
 |_,_=>False
def b29:List V→(V→Prop)→Prop
 |[.agg [.agg X,.bool fr,.list false ys,.int .i64 rm,.list false ts],.agg [.agg Y,.bool gr,.list false zs,.int .i64 sm,.list false us]],k=>∃f g,X=arrF 16 f∧Y=arrF 16 g∧SOkS ⟨f,fr,ys,rm,ts⟩∧SOkS ⟨g,gr,zs,sm,us⟩∧k (.bool (uQ ⟨f,fr,ys,rm,ts⟩ ⟨g,gr,zs,sm,us⟩))
 |_,_=>False
def ends39_0:EndsL:=⟨1009,[0,1,12,13],[],0,1009,[],[],[4],[]⟩
def ends42_0:EndsL:=⟨1009,[1,2,15,16,17],[],0,1009,[],[],[6],[]⟩
def ends28_0:EndsL:=⟨1035,[2,3,4,6,38],[1000,1001,1002,1032,1031],0,1035,[2,3,4,6],[1000,1001,1002,1032,1031],[],[]⟩
def ends28_1:EndsL:=⟨1042,[2,3,4,6,60,61],[1000,1001,1002,1032,1031],2,1042,[2,3,4,6],[1000,1001,1002,1032,1031],[],[]⟩
def ends28_2:EndsL:=⟨1042,[2,3,4,6,60,61],[1000,1001,1002,1032,1031],2,1042,[2,3,4,6],[1000,1001,1002,1032,1031],[],[]⟩
end GoL
