/- A part of the proof: a logic proved sound over the model; contracts; plain laws. -/
import Derived.Test.YteeaefidpkifbaaR6P
import Derived.Test.YteeaefidpkifbaaProg
import Derived.KernelRfl
set_option linter.all false
open Go Go.Proofs
namespace GoL
structure FS where
 f:Nat→Int×Int
 fr:Bool
 ys:List V
 rm:Int
 ts:List V
structure MD where
 am:List V
 im:List V
 ex:List V
 fu:List V
 li:List V
 co:List V
structure LK where
 m:MD
 op:Int
 ag:List V
 s:FS
 o:FS
 es:List V
 g:Bool
 rt:Bool
def fsV (s:FS):V:=.agg [.agg (arrF 16 s.f),.bool s.fr,.list false s.ys,.int .i64 s.rm,.list false s.ts]
def mdV (m:MD):V:=.agg [.list false m.am,.list false m.im,.list false m.ex,.list false m.fu,.list false m.li,.list false m.co]
def lkV (l:LK) (e:Nat):V:=.agg [mdV l.m,.agg [.int .i64 l.op,.list false l.ag],fsV l.s,fsV l.o,.sl e l.es.length,.bool l.g,.bool l.rt]
def SOkS (s:FS):Prop:=KLs s.ys∧s.ys.length≤1000∧NLs s.ts∧s.ts.length≤1000
def ImpL (xs:List V):Prop:=∀v∈xs,∃a b c:Int,v=.agg [.int .i64 a,.int .i64 b,.int .i64 c]
def MOk (m:MD):Prop:=LitL m.li∧ImpL m.im∧ImpL m.fu∧m.im.length≤1000000∧m.fu.length≤1000000
def LOk (l:LK):Prop:=MOk l.m∧SOkS l.s∧SOkS l.o∧NoIds l.es
def hbL (spec:List V→LK→(V→LK→Prop)→Prop):HBody:=fun hvc rest H1 id k=>match hvc with
 |[.ptr c 0 []]=>match H1 c with
  |some ⟨none,false,t⟩=>match t with
   | .agg [_,_,_,_,.sl e _,_,_]=>match H1 e with
    |some ⟨some E,false,.agg rows⟩=>chkP (Nat.beq E 79) (∃l:LK,t=lkV l e∧rows=l.es∧spec rest l fun r l'=>k r [(c,⟨none,false,lkV l' e⟩),(e,⟨some 79,false,.agg l'.es⟩)])
    |_=>False
   |_=>False
  |_=>False
 |_=>False
def hbR (spec:List V→LK→(V→Prop)→Prop):HBody:=fun hvc rest H1 id k=>match hvc with
 |[.ptr c 0 []]=>match H1 c with
  |some ⟨none,_,t⟩=>match t with
   | .agg [_,_,_,_,.sl e _,_,_]=>match H1 e with
    |some ⟨some E,_,.agg rows⟩=>chkP (Nat.beq E 79) (∃l:LK,t=lkV l e∧rows=l.es∧spec rest l fun r=>k r [])
    |_=>False
   |_=>False
  |_=>False
 |_=>False
def LC (f:Nat) (rest:List V) (l:LK) (r:V) (l':LK):Prop:=CallH Try.prog f (.ptr 0 0 []::rest) (lkB [(0,⟨none,false,lkV l 1⟩),(1,⟨some 79,false,.agg l.es⟩)]) r (lkB [(0,⟨none,false,lkV l' 1⟩),(1,⟨some 79,false,.agg l'.es⟩)])
def lkY (l:LK) (e y:Nat):V:=.agg [mdV l.m,.agg [.int .i64 l.op,.list false l.ag],fsV l.s,.agg [.agg (arrF 16 l.o.f),.bool l.o.fr,.sl y l.o.ys.length,.int .i64 l.o.rm,.list false l.o.ts],.sl e l.es.length,.bool l.g,.bool l.rt]
def zW (l:LK) (ok:Bool):LK:={ l with rt:=if l.rt=true then ok else false }
def whatK (l:LK) (tg n:Int):Int×Int:=srcS l.s.f l.s.fr l.s.ys l.m.li tg n
def kdV (l:LK):V→Int×Int
 | .agg [.int .i64 t,.int .i64 n,.list false _]=>whatK l t n
 |_=>(0,-1)
def nV:V→Int
 | .agg [_,.int .i64 n,_]=>n
 |_=>0
def ArgL (xs:List V):Prop:=∀v∈xs,∃(t n:Int) (ls:List V),v=.agg [.int .i64 t,.int .i64 n,.list false ls]
def srcOk (l:LK):List V→Bool
 |[]=>true
 |v::r=>if plain (kdV l v).1 (kdV l v).2=true then srcOk l r else false
def srcLast (l:LK) (a:Int×Int):List V→Int×Int
 |[]=>a
 |v::r=>srcLast l (kdV l v) r
def srcL (l:LK) (xs:List V):LK:={ l with rt:=if l.rt=true then srcOk l xs else false }
def dstBad (l:LK) (tg n:Int):Bool:=if (tg==4)=true then memI l.o.ts n else false
def dstGo (l:LK) (tg n:Int):Bool:=if dstBad l tg n=true then false else putO l.o.fr l.o.ys tg n
def dstL (l:LK) (tg n m a:Int):LK:={ l with o:=if l.rt=true then (if dstGo l tg n=true then { l.o with f:=putF l.o.f tg n m a,ys:=putZ l.o.fr l.o.ys tg n m a } else l.o) else l.o,rt:=if l.rt=true then dstGo l tg n else false }
def edgeRows (s:FS):List V→List V
 |[]=>[]
 | .int .i64 n::r=>if (n != 0)=true then .agg [.int .i64 n,fsV s]::edgeRows s r else edgeRows s r
 |_::r=>edgeRows s r
def edgeL (l:LK) (s:FS) (ns:List V):LK:={ l with es:=l.es++edgeRows s ns }
def plainsN (f:Nat→Int×Int):Nat→Nat→Bool
 |i,k+1=>if plain (f i).1 (f i).2=true then plainsN f (i+1) k else false
 |_,0=>true
def plainL (l:LK) (n:Int):LK:={ l with rt:=if l.rt=true then (if decide (n≤16)=true then plainsN l.s.f 0 n.toNat else false) else false }
def clampN (n:Int):Int:=if 0<(if 16<n then 16 else n) then (if 16<n then 16 else n) else 0
def liveL (l:LK) (n:Int):LK:={ l with o:={ l.o with f:=cutF l.o.f (clampN n),rm:=0 },rt:=if l.rt=true then (if liveB l.s.f n=true then readyB l.s.fr l.s.ys else false) else false }
def takeL (l:LK) (n:Int):LK:={ l with o:={ l.o with rm:=IntKind.i64.wrap (l.s.rm-n) },rt:=if l.rt=true then decide (l.s.rm≥n) else false }
def calledL (l:LK):LK:={ l with o:={ l.o with f:=setF (cutF l.o.f 0) 0 (127,-1),rm:=0 } }
def s57:List V→LK→(V→LK→Prop)→Prop
 |[.bool ok],l,k=>∀l',l'=zW l ok→k (.bool l'.rt) l'
 |_,_,_=>False
def hbM:HBody:=fun hvc rest H1 id k=>match hvc with
 |[.ptr c 0 []]=>match H1 c with
  |some ⟨none,false,t⟩=>match t with
   | .agg [_,_,_,.agg [_,_,ys,_,_],.sl e _,_,_]=>match ys with
    | .sl y _=>match H1 e with
     |some ⟨some E,false,.agg rows⟩=>match H1 y with
      |some ⟨some F,false,.agg yr⟩=>chkP (Nat.beq E 79) (chkP (Nat.beq F 52) (match Nat.beq e y with
       |false=>∃l:LK,t=lkY l e y∧rows=l.es∧yr=l.o.ys∧s57 rest l fun r l'=>k r [(c,⟨none,false,lkY l' e y⟩),(e,⟨some 79,false,.agg l'.es⟩),(y,⟨some 52,false,.agg l'.o.ys⟩)]
       |true=>False))
      |_=>False
     |_=>False
    |_=>hbL s57 hvc rest H1 id k
   |_=>False
  |_=>False
 |_=>False
def s79:List V→LK→(V→Prop)→Prop
 |[.int .i64 i],l,k=>0≤i∧i<l.ag.length∧∃(t n:Int) (ls:List V),getV l.ag i=.agg [.int .i64 t,.int .i64 n,.list false ls]∧k (.agg [.int .i64 t,.int .i64 n,.list false ls])
 |_,_,_=>False
def s47:List V→LK→(V→Prop)→Prop
 |[.int .i64 i],l,k=>0≤i∧i<l.ag.length∧∃(t n:Int) (ls:List V),getV l.ag i=.agg [.int .i64 t,.int .i64 n,.list false ls]∧k (.int .i64 n)
 |_,_,_=>False
def hbN:HBody:=fun hvc rest H1 id k=>match hvc with
 |[.ptr c 0 []]=>match H1 c with
  |some ⟨none,_,t⟩=>match t with
   | .agg [_,_,_,.agg [_,_,ys,_,_],.sl e _,_,_]=>match ys with
    | .sl y _=>match H1 e with
     |some ⟨some E,_,.agg rows⟩=>match H1 y with
      |some ⟨some F,_,.agg yr⟩=>chkP (Nat.beq E 79) (chkP (Nat.beq F 52) (match Nat.beq e y with
       |false=>∃l:LK,t=lkY l e y∧rows=l.es∧yr=l.o.ys∧s47 rest l fun r=>k r []
       |true=>False))
      |_=>False
     |_=>False
    |_=>hbR s47 hvc rest H1 id k
   |_=>False
  |_=>False
 |_=>False
def s71:List V→LK→(V→Prop)→Prop
 |[.agg [.int .i64 t,.int .i64 n,.list false ls]],l,k=>LOk l∧∀q:Int×Int,q=whatK l t n→k (.agg [.int .i64 q.1,.int .i64 q.2])
 |_,_,_=>False
def s48:List V→LK→(V→LK→Prop)→Prop
 |[.list false xs],l,k=>LOk l∧ArgL xs∧xs.length≤100000∧∀q:Int×Int,q=srcLast l (0,0) xs→∀l',l'=srcL l xs→k (.agg [.int .i64 q.1,.int .i64 q.2]) l'
 |_,_,_=>False
def s78:List V→LK→(V→LK→Prop)→Prop
 |[.agg [.int .i64 t,.int .i64 n,.list false ls],.agg [.int .i64 m,.int .i64 a]],l,k=>LOk l∧∀l',l'=dstL l t n m a→k (.tup []) l'
 |_,_,_=>False
def s46:List V→LK→(V→LK→Prop)→Prop
 |[.agg [.agg X,.bool fr,.list false ys,.int .i64 r,.list false ts],.list false ns],l,k=>LOk l∧NLs ns∧ns.length≤1000∧l.es.length≤5000∧∃f,X=arrF 16 f∧∀l',l'=edgeL l ⟨f,fr,ys,r,ts⟩ ns→k (.tup []) l'
 |_,_,_=>False
def s73:List V→LK→(V→LK→Prop)→Prop
 |[.int .i64 n],l,k=>LOk l∧∀l',l'=plainL l n→k (.tup []) l'
 |_,_,_=>False
def s80:List V→LK→(V→LK→Prop)→Prop
 |[.int .i64 n],l,k=>LOk l∧∀l',l'=liveL l n→k (.tup []) l'
 |_,_,_=>False
def s85:List V→LK→(V→LK→Prop)→Prop
 |[.int .i64 n],l,k=>∀l',l'=takeL l n→k (.tup []) l'
 |_,_,_=>False
def s74:List V→LK→(V→LK→Prop)→Prop
 |[],l,k=>LOk l∧∀l',l'=calledL l→k (.tup []) l'
 |_,_,_=>False
def s83:List V→LK→(V→LK→Prop)→Prop
 |[.agg [.int .i64 t,.int .i64 n,.list false ls]],l,k=>LOk l∧∀l',l'=zW l ((whatK l t n).1==128)→k (.tup []) l'
 |_,_,_=>False
def sp57:SpT:=zM
def sp79:SpT:=zM
def sp47:SpT:=zM
def sp71:SpT:=zI 88 b88 (zM)
def sp85:SpT:=zQ 57 1 hbM (zM)
def sp80:SpT:=zQ 57 1 hbM (zI 75 b75 (zI 59 b59 (zI 61 b61 (zM))))
def sp74:SpT:=zI 61 b61 (zI 62 b62 (zM))
def sp83:SpT:=zQ 71 1 (hbR s71) (zQ 57 1 hbM (zM))
def sp78:SpT:=zQ 57 1 hbM (zI 90 b90 (zI 91 b91 (zM)))
def sp48:SpT:=zQ 71 1 (hbR s71) (zI 72 b72 (zQ 57 1 hbM (zM)))
def ent48:List V→List Blk→KK→Prop
 |[.ptr 0 0 [],.ptr 1000 0 [],.ptr 1001 0 [],.list false xs,.int .i64 n,.int .i64 i],[⟨none,false,t⟩,⟨some 79,false,.agg rows⟩,⟨none,false,z⟩,⟨none,false,.agg [.int .i64 m,.int .i64 a]⟩],K=>i=0∧n=xs.length∧ArgL xs∧xs.length≤100000∧z=.agg [.int .i64 0,.int .i64 0]∧∃l,t=lkV l 1∧rows=l.es∧LOk l∧
   ∀l',l'=srcL l xs→∀q:Int×Int,q=srcLast l (m,a) xs→K (.exit 0) 1005 [(4,.ptr 1000 0 []),(5,.ptr 1001 0 [])] [(0,⟨none,false,lkV l' 1⟩),(1,⟨some 79,false,.agg l'.es⟩),(1000,⟨none,false,.agg [.int .i64 0,.int .i64 0]⟩),(1001,⟨none,false,.agg [.int .i64 q.1,.int .i64 q.2]⟩)]
 |_,_,_=>False
def ls48:LsT:=lsAdd 0 1005 [0,4,5,8,9,10] [0,1,1000,1001] ent48 noLs
def ends48_0:EndsL:=⟨1005,[0,4,5,8,9,10],[0,1,1000,1001],0,1005,[4,5],[0,1,1000,1001],[],[]⟩
def sp46:SpT:=zM
def ent46:List V→List Blk→KK→Prop
 |[.ptr 0 0 [],.ptr 1000 0 [],.list false ns,.int .i64 n,.int .i64 i],[⟨none,false,t⟩,⟨some 79,false,.agg rows⟩,⟨none,false,.agg [.agg X,.bool fr,.list false ys,.int .i64 rm,.list false ts]⟩],K=>i=0∧n=ns.length∧NLs ns∧ns.length≤1000∧∃f,X=arrF 16 f∧∃l,t=lkV l 1∧rows=l.es∧LOk l∧l.es.length≤5000∧
   ∀l',l'=edgeL l ⟨f,fr,ys,rm,ts⟩ ns→K (.exit 0) 1004 [] [(0,⟨none,false,lkV l' 1⟩),(1,⟨some 79,false,.agg l'.es⟩)]
 |_,_,_=>False
def ls46:LsT:=lsAdd 0 1004 [0,4,8,9,10] [0,1,1000] ent46 noLs
def ends46_0:EndsL:=⟨1004,[0,4,8,9,10],[0,1,1000],0,1004,[],[0,1],[],[]⟩
def sp73:SpT:=zQ 57 1 hbM (zI 72 b72 (zM))
def ent73:List V→List Blk→KK→Prop
 |[.ptr 0 0 [],.own k [.ptr 0 8 [2,0]],.int .i64 n,.int .i64 i],[⟨none,false,t⟩,⟨some 79,false,.agg rows⟩],K=>i=0∧n=k∧k≤16∧∃l,t=lkV l 1∧rows=l.es∧LOk l∧
   ∀l',l'={ l with rt:=if l.rt=true then plainsN l.s.f 0 k else false }→K (.exit 0) 1013 [] [(0,⟨none,false,lkV l' 1⟩),(1,⟨some 79,false,.agg l'.es⟩)]
 |_,_,_=>False
def ls73:LsT:=lsAdd 0 1013 [0,17,18,19] [0,1] ent73 noLs
def ends73_0:EndsL:=⟨1013,[0,17,18,19],[0,1],0,1013,[],[0,1],[],[]⟩
end GoL
