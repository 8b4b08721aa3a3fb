/- A part of the proof: a logic proved sound over the model; contracts; plain laws. -/
import Derived.Test.YteeaefidpkifbaaF4P
import Derived.Test.YteeaefidpkifbaaProg
import Derived.KernelRfl
set_option linter.all false
open Go Go.Proofs
namespace GoL
def b26:List V→(V→Prop)→Prop
 |[.agg [.list false am,.list false im,.list false ex,.list false fu,.list false li,.list false co],.agg [.int .i64 op,.list false ag],.agg [.agg X,.bool fr,.list false ys,.int .i64 rm,.list false ts]],k=>∃f,X=arrF 16 f∧MOk ⟨am,im,ex,fu,li,co⟩∧SOkS ⟨f,fr,ys,rm,ts⟩∧ts.length≤900∧(∀u∈ag,T28 u)∧∀o,o=effO ⟨am,im,ex,fu,li,co⟩ op ag ⟨f,fr,ys,rm,ts⟩→∀es,es=effE ⟨am,im,ex,fu,li,co⟩ op ag ⟨f,fr,ys,rm,ts⟩→∀g,g=effG ⟨am,im,ex,fu,li,co⟩ op ag ⟨f,fr,ys,rm,ts⟩→∀ok,ok=effOk ⟨am,im,ex,fu,li,co⟩ op ag ⟨f,fr,ys,rm,ts⟩→k (.tup [.agg [.agg (arrF 16 o.f),.bool o.fr,.list false o.ys,.int .i64 o.rm,.list false o.ts],.list false es,.bool g,.bool ok])
 |_,_=>False
def tM (n:Int):FS:=⟨entF n,false,[],0,[]⟩
abbrev EF:=Int→List V→FS→Option (FS×List (Int×FS)×Bool×Bool)
def edV (es:List (Int×FS)):List V:=es.map fun p=>.agg [.int .i64 p.1,fsV p.2]
def uO (m:SM):Prop:=∀p∈m,SOkS p.2
def EsOk (es:List (Int×FS)):Prop:=(∀p∈es,SOkS p.2)∧es.length≤1000
def EFOk (m:MD) (E:EF):Prop:=∀op ag s o es g ok,E op ag s=some (o,es,g,ok)→s.ts.length≤900∧effO m op ag s=o∧effE m op ag s=edV es∧effG m op ag s=g∧effOk m op ag s=ok∧SOkS o∧EsOk es
def uP (fm tm ar:Int):Bool×SM×List Int:=
 if (uA fm tm [] [] fm (tM ar)).1=true then uA fm tm (uA fm tm [] [] fm (tM ar)).2.1 (uA fm tm [] [] fm (tM ar)).2.2 (IntKind.i64.wrap (fm+2)) (tM ar) else uA fm tm [] [] fm (tM ar)
def uG (co:List V) (fm tm:Int):List (Int×FS)→SM→List Int→Bool×SM×List Int
 |[],m,q=>(true,m,q)
 |(n,s)::r,m,q=>if (uA fm tm m q (uD n co 0) s).1=true then uG co fm tm r (uA fm tm m q (uD n co 0) s).2.1 (uA fm tm m q (uD n co 0) s).2.2 else (false,m,q)
def uU (co:List V) (fm tm:Int) (at_:Int) (z:FS×List (Int×FS)×Bool×Bool) (m:SM) (q:List Int):Bool×SM×List Int:=
 if z.2.2.2=false then (false,m,q) else if z.2.2.1=true then (if (uA fm tm m q (at_+1) z.1).1=true then uG co fm tm z.2.1 (uA fm tm m q (at_+1) z.1).2.1 (uA fm tm m q (at_+1) z.1).2.2 else (false,m,q)) else uG co fm tm z.2.1 m q
def uF (q:List Int):Int:=uE (q.map (V.int .i64))
def tA (E:EF) (co:List V) (fm tm:Int):Nat→SM→List Int→Option (Bool×Int×SM)
 |0,_,_=>none
 |k+1,m,[]=>some (true,0,m)
 |k+1,m,q=>if (decide (m.length≤50000)&&decide (q.length≤50000)&&decide (0≤uF q)&&decide (uF q<co.length))=false then none else match uZ m (uF q) with
  |none=>none
  |some s=>match getV co (uF q) with
   | .agg [.int .i64 op,.list false ag]=>match E op ag s with
    |none=>none
    |some z=>if (uU co fm tm (uF q) z m (uS q (uF q))).1=true then tA E co fm tm k (uU co fm tm (uF q) z m (uS q (uF q))).2.1 (uU co fm tm (uF q) z m (uS q (uF q))).2.2 else some (false,uF q,m)
   |_=>none
def uY (E:EF) (co:List V) (fm tm ar:Int) (k:Nat):Option (Bool×Int×SM):=
 if (if fm<0 then true else if tm<fm then true else decide (tm>co.length))=true then some (false,0,[]) else
 if (uP fm tm ar).1=true then tA E co fm tm k (uP fm tm ar).2.1 (uP fm tm ar).2.2 else some (false,fm,[])
def wkB (am im ex fu li co:List V) (fm tm en ar:Int) (m:SM) (q:List Int):List Blk:=[⟨none,false,.agg [.list false am,.list false im,.list false ex,.list false fu,.list false li,.list false co]⟩,⟨none,false,.agg [.int .i64 fm,.int .i64 tm,.int .i64 en,.int .i64 ar]⟩,⟨some 48,false,.own 48 (stV m)⟩,⟨some 65,false,.own 65 (frV q)⟩,⟨none,false,wkV fm tm en ar 1024 1025⟩]
def sp16:SpT:=zI 22 b22 (zI 23 b23 (zI 26 b26 (zI 27 b27 (zQ 21 1 h21 (zQ 25 1 h25 (zQ 24 1 (hbCol 32) zM))))))
def ent16a:List V→List Blk→KK→Prop
 |[.ptr 1000 0 [],.ptr 1001 0 [],.ptr 1027 0 [],.sl 1034 ln,.int .i64 n,.int .i64 i],[⟨none,false,.agg [.list false am,.list false im,.list false ex,.list false fu,.list false li,.list false co]⟩,⟨none,false,.agg [.int .i64 fm,.int .i64 tm,.int .i64 en,.int .i64 ar]⟩,⟨some 48,false,.own 48 st⟩,⟨some 65,false,.own 65 fr⟩,⟨none,false,.agg [pt,.own 48 [.ptr 1024 0 [],.nilp],.own 65 [.ptr 1025 0 [],.nilp]]⟩,⟨some 3,false,.agg [.int .i64 x,.int .i64 y]⟩],K=>pt=.agg [.int .i64 fm,.int .i64 tm,.int .i64 en,.int .i64 ar]∧ln=2∧n=2∧i=0∧x=fm∧y=IntKind.i64.wrap (fm+2)∧st=[]∧fr=[]∧0≤fm∧fm≤1000000∧(∀m q,uP fm tm ar=(true,m,q)→uO m→K (.exit 0) 1037 [(2,.ptr 1000 0 []),(3,.ptr 1001 0 []),(7,.ptr 1027 0 [])] [(1000,⟨none,false,.agg [.list false am,.list false im,.list false ex,.list false fu,.list false li,.list false co]⟩),(1001,⟨none,false,.agg [.int .i64 fm,.int .i64 tm,.int .i64 en,.int .i64 ar]⟩),(1024,⟨some 48,false,.own 48 (stV m)⟩),(1025,⟨some 65,false,.own 65 (frV q)⟩),(1027,⟨none,false,wkV fm tm en ar 1024 1025⟩)])∧(∀m q,uP fm tm ar=(false,m,q)→K .ret 1037 [(4,.own 0 []),(5,.int .i64 fm),(6,.gd true (.bool false))] [])
 |_,_,_=>False
def ent16c:List V→List Blk→KK→Prop
 |[.ptr 1000 0 [],.ptr 1001 0 [],.ptr 1027 0 [],.int .i64 a,.bool g,.list false ev,.int .i64 n,.int .i64 i],[⟨none,false,.agg [.list false am,.list false im,.list false ex,.list false fu,.list false li,.list false co]⟩,⟨none,false,.agg [.int .i64 fm,.int .i64 tm,.int .i64 en,.int .i64 ar]⟩,⟨some 48,false,.own 48 st⟩,⟨some 65,false,.own 65 fr⟩,⟨none,false,.agg [pt,.own 48 [.ptr 1024 0 [],.nilp],.own 65 [.ptr 1025 0 [],.nilp]]⟩],K=>pt=.agg [.int .i64 fm,.int .i64 tm,.int .i64 en,.int .i64 ar]∧i=0∧n=ev.length∧∃es m q,ev=edV es∧st=stV m∧fr=frV q∧uB co∧EsOk es∧uO m∧m.length≤50001∧q.length≤50001∧(∀m' q',uG co fm tm es m q=(true,m',q')→uO m'→K (.exit 4) 1096 [(2,.ptr 1000 0 []),(3,.ptr 1001 0 []),(7,.ptr 1027 0 []),(10,.int .i64 a),(13,.bool g)] [(1000,⟨none,false,.agg [.list false am,.list false im,.list false ex,.list false fu,.list false li,.list false co]⟩),(1001,⟨none,false,.agg [.int .i64 fm,.int .i64 tm,.int .i64 en,.int .i64 ar]⟩),(1024,⟨some 48,false,.own 48 (stV m')⟩),(1025,⟨some 65,false,.own 65 (frV q')⟩),(1027,⟨none,false,wkV fm tm en ar 1024 1025⟩)])∧(∀m' q',uG co fm tm es m q=(false,m',q')→K .ret 1096 [(4,.own 0 []),(5,.int .i64 a),(6,.gd true (.bool false))] [])
 |_,_,_=>False
def ent16b:List V→List Blk→KK→Prop
 |[.ptr 1000 0 [],.ptr 1001 0 [],.ptr 1027 0 []],[⟨none,false,.agg [.list false am,.list false im,.list false ex,.list false fu,.list false li,.list false co]⟩,⟨none,false,.agg [.int .i64 fm,.int .i64 tm,.int .i64 en,.int .i64 ar]⟩,⟨some 48,false,.own 48 st⟩,⟨some 65,false,.own 65 fr⟩,⟨none,false,.agg [pt,.own 48 [.ptr 1024 0 [],.nilp],.own 65 [.ptr 1025 0 [],.nilp]]⟩],K=>pt=.agg [.int .i64 fm,.int .i64 tm,.int .i64 en,.int .i64 ar]∧∃E k m q res,st=stV m∧fr=frV q∧EFOk ⟨am,im,ex,fu,li,co⟩ E∧MOk ⟨am,im,ex,fu,li,co⟩∧uB co∧uO m∧tA E co fm tm k m q=some res∧(∀m',res=(true,0,m')→uO m'→K (.exit 2) 1037 [(2,.ptr 1000 0 []),(3,.ptr 1001 0 []),(7,.ptr 1027 0 [])] [(1000,⟨none,false,.agg [.list false am,.list false im,.list false ex,.list false fu,.list false li,.list false co]⟩),(1001,⟨none,false,.agg [.int .i64 fm,.int .i64 tm,.int .i64 en,.int .i64 ar]⟩),(1024,⟨some 48,false,.own 48 (stV m')⟩),(1025,⟨some 65,false,.own 65 (frV [])⟩),(1027,⟨none,false,wkV fm tm en ar 1024 1025⟩)])∧(∀a m',res=(false,a,m')→K .ret 1037 [(4,.own 0 []),(5,.int .i64 a),(6,.gd true (.bool false))] [])
 |_,_,_=>False
def ls16c:LsT:=lsAdd 4 1096 [2,3,7,10,13,111,112,113] [1000,1001,1024,1025,1027] ent16c noLs
def ls16b:LsT:=lsAdd 2 1037 [2,3,7] [1000,1001,1024,1025,1027] ent16b ls16c
def ls16:LsT:=lsAdd 0 1037 [2,3,7,45,46,47] [1000,1001,1024,1025,1027,1034] ent16a ls16b
def ends16_0:EndsL:=⟨1037,[2,3,7,45,46,47],[1000,1001,1024,1025,1027,1034],0,1037,[2,3,7],[1000,1001,1024,1025,1027],[4,5,6],[]⟩
def ends16_1:EndsL:=⟨1037,[2,3,7],[1000,1001,1024,1025,1027],2,1037,[2,3,7],[1000,1001,1024,1025,1027],[4,5,6],[]⟩
def ends16_2:EndsL:=⟨1096,[2,3,7,10,13,111,112,113],[1000,1001,1024,1025,1027],4,1096,[2,3,7,10,13],[1000,1001,1024,1025,1027],[4,5,6],[]⟩
end GoL
