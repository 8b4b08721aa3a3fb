/- A part of the proof: a logic proved sound over the model; contracts; plain laws. -/
import Derived.Test.YteeaefidpkifbaaG2P
import Derived.Test.YteeaefidpkifbaaH1P
import Derived.Test.YteeaefidpkifbaaProg
import Derived.KernelRfl
set_option linter.all false
open Go Go.Proofs
namespace GoL
def nA (l:LK) (i:Int):Int:=nV (getV l.ag i)
def lsA:V→List V
 | .agg [_,_,.list _ ls]=>ls
 |_=>[]
def dstA (l:LK) (v:V) (q:Int×Int):LK:=match v with
 | .agg [.int .i64 t,.int .i64 n,.list false _]=>dstL l t n q.1 q.2
 |_=>l
def edge1 (l:LK) (s:FS) (n:Int):LK:=edgeL l s [.int .i64 n]
def letP (c:UInt8) (t n:Int):Prop:=(t=1∨0≤n)∧(c=117→t=0)∧(c=121→t=4)
def ArgS:List UInt8→List V→Prop
 |c::r,v::xs=>(∃(t n:Int) (ls:List V),v=.agg [.int .i64 t,.int .i64 n,.list false ls]∧ArgL ls∧ls.length≤1000∧letP c t n)∧ArgS r xs
 |[],[]=>True
 |_,_=>False
def GOk (l:LK):Prop:=LOk l∧ArgS (sigS l.op) l.ag∧l.es.length≤1000
def min2 (a b:Int):Int:=if a<b then a else b
def thirdA:V→Int
 | .agg [_,_,.int _ c]=>c
 |_=>0
def callsG (l:LK):LK:=
 if (l.op==6)=true then calledL (plainL (zW l (if l.s.fr=true then readyB l.s.fr l.s.ys else false)) (nA l 0))
 else if (l.op==7)=true then plainL (zW l (!l.s.fr)) (nA l 0)
 else if (l.op==8)=true then plainL (zW l (if l.s.fr=true then (if ((l.s.ys.length:Int)==nA l 2)=true then ((l.s.ts.length:Int)==0) else false) else false)) (nA l 0)
 else if (l.op==9)=true then calledL (plainL (zW l (if decide (nA l 1<l.m.im.length)=true then (if (thirdA (getV l.m.im (nA l 1))==nA l 0)=true then readyB l.s.fr l.s.ys else false) else false)) (nA l 0))
 else if (l.op==10)=true then calledL (plainL (zW l (if l.s.fr=true then readyB l.s.fr l.s.ys else false)) (IntKind.i64.wrap (nA l 0+1)))
 else plainL (zW l (!l.s.fr)) 1
def bareB (l:LK):Bool:=if l.s.fr=true then ((l.s.ts.length:Int)==0) else false
def framesG (l:LK):LK:=
 if (l.op==12)=true then
  let l1:=zW l (if (!l.s.fr)=true then (if decide (nA l 0≤12)=true then liveB l.s.f (nA l 1) else false) else false)
  if l1.rt=true then { l1 with o:=⟨cutF l.o.f (clampN (nA l 1)),true,rep0 (nA l 0),0,l.o.ts⟩ } else l1
 else if (l.op==13)=true then
  let l1:=zW l (if bareB l=true then ((l.s.ys.length:Int)==nA l 0) else false)
  { l1 with o:=⟨l.o.f,false,[],l.o.rm,l.o.ts⟩ }
 else if (l.op==14)=true then
  let l1:=zW l (if bareB l=true then decide ((l.s.ys.length:Int)≥nA l 0) else false)
  if l1.rt=true then { l1 with o:=⟨l.o.f,l.o.fr,l.s.ys.drop (nA l 0).toNat,l.o.rm,l.o.ts⟩ } else l1
 else if (l.op==15)=true then dstA l (getV l.ag 0) (4,-1)
 else
  let l1:=liveL (zW l (decide (nA l 0≤100))) (nA l 1)
  { l1 with o:={ l1.o with rm:=nA l 0 } }
def makesG (l:LK):LK:=
 if (l.op==4)=true then dstA (srcL l [getV l.ag 0]) (getV l.ag 1) (srcLast l (0,0) [getV l.ag 0])
 else if (l.op==34)=true then
  let l1:=srcL l [getV l.ag 0]
  let l2:=srcL l1 [getV l.ag 1]
  dstA (dstA l2 (getV l.ag 0) (srcLast l1 (0,0) [getV l.ag 1])) (getV l.ag 1) (srcLast l (0,0) [getV l.ag 0])
 else if (l.op==17)=true then dstA (takeL (srcL l [getV l.ag 0,getV l.ag 1]) 2) (getV l.ag 2) (8,-1)
 else if (l.op==18)=true then dstA (takeL (srcL l (lsA (getV l.ag 0))) (IntKind.i64.wrap (1+(lsA (getV l.ag 0)).length))) (getV l.ag 1) (16,(lsA (getV l.ag 0)).length)
 else if (l.op==19)=true then dstA (dstA (zW l ((kdV l (getV l.ag 0)).1==8)) (getV l.ag 1) (127,-1)) (getV l.ag 2) (127,-1)
 else if (l.op==20)=true then dstA (zW l (if ((kdV l (getV l.ag 0)).1==16)=true then decide ((kdV l (getV l.ag 0)).2>nA l 1) else false)) (getV l.ag 2) (127,-1)
 else if (l.op==43)=true then dstA (liveL (srcL l (lsA (getV l.ag 1))) (nA l 0)) (getV l.ag 2) (32,-1)
 else
  let l1:=zW l (if decide (nA l 0<l.m.fu.length)=true then (thirdA (getV l.m.fu (nA l 0))==((lsA (getV l.ag 1)).length:Int)) else false)
  dstA (takeL (srcL l1 (lsA (getV l.ag 1))) (IntKind.i64.wrap (2+(lsA (getV l.ag 1)).length))) (getV l.ag 2) (64,-1)
def reckonsG (l:LK):LK:=
 if (l.op==35)=true then
  let l1:=liveL (srcL (zW l (betw (nA l 2) 1 10)) [getV l.ag 3,getV l.ag 4]) (nA l 1)
  dstA (edge1 l1 l1.o (nA l 0)) (getV l.ag 5) (1,-1)
 else if (l.op==36)=true then
  let l1:=srcL (zW l (betw (nA l 1) 1 5)) [getV l.ag 2]
  dstA (edge1 l1 l1.o (nA l 0)) (getV l.ag 3) (if decide (nA l 1>2)=true then (1,-1) else (127,-1))
 else
  let l1:=srcL (zW l (nA l 1==1)) [getV l.ag 2,getV l.ag 3]
  dstA (edge1 l1 l1.o (nA l 0)) (getV l.ag 4) (127,-1)
def matchedA (l:LK) (v:V):LK:=zW l ((kdV l v).1==128)
def yA (l:LK):LK:=
 if (l.op==38)=true then
  let l1:=srcL l [getV l.ag 1]
  let l2:=liveL (zW l1 (if (tagV (getV l.ag 1) != 3)=true then true else decide (nA l 1<nA l 2))) (nA l 2)
  dstA (edge1 l2 l2.o (nA l 0)) (getV l.ag 3) (128,-1)
 else if (l.op==39)=true then dstA (edge1 (zW (matchedA l (getV l.ag 1)) (betw (nA l 2) 1 7)) l.s (nA l 0)) (getV l.ag 3) (1,-1)
 else if (l.op==40)=true then
  let l2:=liveL (zW (matchedA l (getV l.ag 1)) (if decide (nA l 1<nA l 3)=true then decide (nA l 2≤400) else false)) (nA l 3)
  dstA (edge1 l2 l2.o (nA l 0)) (getV l.ag 4) (32,-1)
 else if (l.op==41)=true then dstA (liveL (zW (matchedA l (getV l.ag 0)) (decide (nA l 0<nA l 1))) (nA l 1)) (getV l.ag 2) (32,-1)
 else edge1 (matchedA l (getV l.ag 1)) l.s (nA l 0)
def sp49:SpT:=zI 59 b59 (zQ 47 1 hbN (zQ 57 1 hbM (zQ 73 1 (hbL s73) (zQ 74 1 (hbL s74) (zM)))))
def sp52:SpT:=zQ 46 1 (hbL s46) (zQ 47 1 hbN (zQ 48 1 (hbL s48) (zQ 57 1 hbM (zI 58 b58 (zI 62 b62 (zQ 78 1 (hbL s78) (zQ 79 1 (hbR s79) (zQ 80 1 (hbL s80) (zM)))))))))
def sp53:SpT:=zQ 46 1 (hbL s46) (zQ 47 1 hbN (zQ 48 1 (hbL s48) (zQ 57 1 hbM (zI 58 b58 (zI 62 b62 (zQ 78 1 (hbL s78) (zQ 79 1 (hbR s79) (zQ 80 1 (hbL s80) (zQ 83 1 (hbL s83) (zM))))))))))
def sp55:SpT:=zQ 47 1 hbN (zQ 48 1 (hbL s48) (zQ 57 1 hbM (zI 62 b62 (zQ 71 1 (hbR s71) (zQ 78 1 (hbL s78) (zQ 79 1 (hbR s79) (zQ 80 1 (hbL s80) (zQ 85 1 (hbL s85) (zM)))))))))
def sp50:SpT:=zI 75 b75 (zQ 47 1 hbN (zQ 57 1 hbM (zI 61 b61 (zI 62 b62 (zI 76 b76 (zI 77 b77 (zQ 78 1 (hbL s78) (zQ 79 1 (hbR s79) (zQ 80 1 (hbL s80) (zM))))))))))
end GoL
