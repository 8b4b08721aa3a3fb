/- A part of the proof: a logic proved sound over the model; contracts; plain laws. -/
import Derived.Test.YteeaefidpkifbaaG3P
import Derived.Test.YteeaefidpkifbaaProg
import Derived.KernelRfl
set_option linter.all false
open Go Go.Proofs
namespace GoL
def refS (s:FS) (v:V) (q:Int×Int):FS:=match v with
 | .agg [.int .i64 t,.int .i64 n,_]=>⟨refF s.f t n q.1 q.2,s.fr,refZ s.fr s.ys t n q.1 q.2,s.rm,s.ts⟩
 |_=>s
def maskB (op:Int):Int:=IntKind.i64.wrap (1*2 ^ (min (IntKind.i64.wrap (op-21)).toNat 64))
def selRows (s:FS):List V→List V
 |_::b::r=>edgeRows s [.int .i64 (nV b)]++selRows s r
 |_=>[]
def numT:V→Int
 | .int _ n=>n
 |_=>0
def tagsOk (y:Int):List V→Bool
 |[]=>true
 |v::r=>if decide (y<numT v)=true then tagsOk y r else false
def noK (l:LK):Int×Int:=meet (kdV l (getV l.ag 1)).1 (kdV l (getV l.ag 1)).2 (notI (maskB l.op))
def yesK (l:LK):Int×Int:=meet (kdV l (getV l.ag 1)).1 (kdV l (getV l.ag 1)).2 (maskB l.op)
def testsLo (l:LK):LK:=
 if ((noK l).1 != 0)=true then { edge1 (srcL l [getV l.ag 1]) (refS l.s (getV l.ag 1) (noK l)) (nA l 0) with g:=((yesK l).1 != 0),o:=refS l.o (getV l.ag 1) (yesK l) }
 else { srcL l [getV l.ag 1] with g:=((yesK l).1 != 0),o:=refS l.o (getV l.ag 1) (yesK l) }
def testsG (l:LK):LK:=
 if (l.op==33)=true then
  let l1:=edge1 (srcL l [getV l.ag 0]) l.s (nA l 1)
  { l1 with es:=l1.es++selRows l.s (lsA (getV l.ag 2)) }
 else if decide (l.op>28)=true then edge1 (srcL l [getV l.ag 1,getV l.ag 2]) l.s (nA l 0)
 else if (l.op==28)=true then
  let q:=kdV l (getV l.ag 1)
  let l1:=zW l (q.1==16)
  let l2:=if (q.2 != nA l 2)=true then edge1 l1 l.s (nA l 0) else l1
  { l2 with g:=if (q.2==-1)=true then true else (q.2==nA l 2),o:=refS l.o (getV l.ag 1) (16,nA l 2) }
 else testsLo l
def zX (l:LK):LK:=
 let y:=nA l 0
 let l1:=zW l (if l.s.fr=true then decide (y<(l.s.ys.length:Int)) else false)
 if l1.rt=true then
  if (l.op==45)=true then
   { l1 with rt:=(if l1.rt=true then tagsOk y l.s.ts else false),o:=⟨l.o.f,l.o.fr,l.s.ys.set y.toNat (.agg [.int .i64 256,.int .i64 (nA l 1)]),l.o.rm,.int .i64 y::l.s.ts⟩ }
  else
   let l2:=zW { l1 with o:={ l.o with ys:=l.s.ys } } (if decide ((l.s.ts.length:Int)>0)=true then (numT (getV l.s.ts 0)==y) else false)
   if l2.rt=true then
    let l3:LK:={ l2 with o:={ l2.o with ys:=l.s.ys.set y.toNat (.agg [.int .i64 4,.int .i64 (-1)]),ts:=l.s.ts.drop 1 } }
    if (l.op==47)=true then
     let l4:=zW l3 (if ((meet (l.s.f 0).1 (l.s.f 0).2 (-1)).1==2)=true then (if plain (l.s.f 1).1 (l.s.f 1).2=true then plain (l.s.f 2).1 (l.s.f 2).2 else false) else false)
     { l4 with o:={ l4.o with f:=cutF l4.o.f 3,rm:=0 } }
    else l3
   else l2
 else l1
noncomputable def throwsG (l:LK):LK:=
 if l.rt=true then
  if thr (fitsG l.op l.ag) l.op l.ag=true then
   if ((l.s.ts.length:Int)==0)=true then l
   else
    let y:=numT (getV l.s.ts 0)
    let l1:=zW l (if l.s.fr=true then (if betw y 0 (IntKind.i64.wrap ((l.s.ys.length:Int)-1))=true then readyB l.s.fr l.s.ys else false) else false)
    if l1.rt=true then
     let q:=saidV (getV l.s.ys y)
     let l2:=zW l1 (if (q.1==256)=true then decide (q.2≥0) else false)
     edge1 l2 ⟨setF (setF (setF (cutF l.s.f 0) 0 (2,-1)) 1 (127,-1)) 2 (4,-1),l.s.fr,l.s.ys,0,l.s.ts⟩ q.2
    else l1
  else l
 else l
def s49:List V→LK→(V→LK→Prop)→Prop
 |[],l,k=>(GOk l∧(l.op=6∨l.op=7∨l.op=8∨l.op=9∨l.op=10∨l.op=11))∧∀l',l'=callsG l→k (.tup []) l'
 |_,_,_=>False
def s50:List V→LK→(V→LK→Prop)→Prop
 |[],l,k=>(GOk l∧(l.op=12∨l.op=13∨l.op=14∨l.op=15∨l.op=16))∧∀l',l'=framesG l→k (.tup []) l'
 |_,_,_=>False
def s51:List V→LK→(V→LK→Prop)→Prop
 |[],l,k=>(GOk l∧(l.op=33∨l.op=29∨l.op=30∨l.op=31∨l.op=32∨l.op=28∨l.op=21∨l.op=22∨l.op=23∨l.op=24∨l.op=25∨l.op=26∨l.op=27))∧∀l',l'=testsG l→k (.tup []) l'
 |_,_,_=>False
def s52:List V→LK→(V→LK→Prop)→Prop
 |[],l,k=>(GOk l∧(l.op=35∨l.op=36∨l.op=37))∧∀l',l'=reckonsG l→k (.tup []) l'
 |_,_,_=>False
def s53:List V→LK→(V→LK→Prop)→Prop
 |[],l,k=>(GOk l∧(l.op=38∨l.op=39∨l.op=40∨l.op=41∨l.op=42))∧∀l',l'=yA l→k (.tup []) l'
 |_,_,_=>False
def s54:List V→LK→(V→LK→Prop)→Prop
 |[],l,k=>(GOk l∧(l.op=45∨l.op=46∨l.op=47))∧∀l',l'=zX l→k (.tup []) l'
 |_,_,_=>False
def s55:List V→LK→(V→LK→Prop)→Prop
 |[],l,k=>(GOk l∧(l.op=4∨l.op=34∨l.op=17∨l.op=18∨l.op=19∨l.op=20∨l.op=43∨l.op=44))∧∀l',l'=makesG l→k (.tup []) l'
 |_,_,_=>False
def s36:List V→LK→(V→LK→Prop)→Prop
 |[],l,k=>(LOk l∧(∀u∈l.ag,T28 u)∧l.es.length≤4000)∧∀l',l'=throwsG l→k (.tup []) l'
 |_,_,_=>False
def sp51:SpT:=zQ 46 1 (hbL s46) (zQ 47 1 hbN (zQ 48 1 (hbL s48) (zQ 57 1 hbM (zI 60 b60 (zQ 71 1 (hbR s71) (zQ 79 1 (hbR s79) (zI 81 b81 (zI 82 b82 (zM)))))))))
def ent51:List V→List Blk→KK→Prop
 |[.ptr 0 0 [],.int .i64 i],[⟨none,false,t⟩,⟨some 79,false,.agg rows⟩],K=>i=1∧∃l,t=lkV l 1∧rows=l.es∧LOk l∧l.es.length≤1100∧2<l.ag.length∧(∃(t n:Int) (ls:List V),getV l.ag 2=.agg [.int .i64 t,.int .i64 n,.list false ls]∧ArgL ls∧ls.length≤1000)∧
   ∀l',l'={ l with es:=l.es++selRows l.s (lsA (getV l.ag 2)) }→K (.exit 1) 1024 [] [(0,⟨none,false,lkV l' 1⟩),(1,⟨some 79,false,.agg l'.es⟩)]
 |_,_,_=>False
def ls51:LsT:=lsAdd 1 1024 [0,3] [0,1] ent51 noLs
def ends51_0:EndsL:=⟨1024,[0,3],[0,1],1,1024,[],[0,1],[],[]⟩
def sp54:SpT:=zI 72 b72 (zQ 47 1 hbN (zQ 57 1 hbM (zI 60 b60 (zI 61 b61 (zI 62 b62 (zQ 77 0 h77 (zI 84 b84 (zM))))))))
def ent54:List V→List Blk→KK→Prop
 |[.ptr 0 0 [],.int .i64 y,.list false ts,.int .i64 n,.int .i64 i],[⟨none,false,t⟩,⟨some 79,false,.agg rows⟩,⟨some 52,false,.agg yr⟩],K=>i=0∧n=ts.length∧NLs ts∧ts.length≤1000∧∃l,t=lkY l 1 1027∧rows=l.es∧yr=l.o.ys∧NoIds l.es∧KLs l.o.ys∧
   ∀l',l'={ l with rt:=if l.rt=true then tagsOk y ts else false }→K (.exit 0) 1045 [(0,.ptr 0 0 []),(2,.int .i64 y)] [(0,⟨none,false,lkY l' 1 1027⟩),(1,⟨some 79,false,.agg l'.es⟩),(1027,⟨some 52,false,.agg l'.o.ys⟩)]
 |_,_,_=>False
def ls54:LsT:=lsAdd 0 1045 [0,2,45,46,47] [0,1,1027] ent54 noLs
def ends54_0:EndsL:=⟨1045,[0,2,45,46,47],[0,1,1027],0,1045,[0,2],[0,1,1027],[],[]⟩
def sp36:SpT:=zI 59 b59 (zQ 46 1 (hbL s46) (zI 56 b56g (zQ 57 1 hbM (zI 58 b58 (zI 60 b60 (zI 61 b61 (zI 62 b62 (zM))))))))
end GoL
