/- A part of the proof: a logic proved sound over the model; contracts; plain laws. -/
import Derived.Test.YteeaefidpkifbaaF5P
import Derived.Test.YteeaefidpkifbaaProg
import Derived.KernelRfl
set_option linter.all false
open Go Go.Proofs
namespace GoL
def nilB:List V→Bool
 |[]=>true
 |_=>false
def prB:V→Bool
 | .agg [.int .i64 _,.int .i64 _]=>true
 |_=>false
def prP:V→Int×Int
 | .agg [.int _ a,.int _ b]=>(a,b)
 |_=>(0,0)
def okS (s:FS):Bool:=s.ys.all prB&&(Nat.ble s.ys.length 1000&&nilB s.ts)
def fsOf:V→Option FS
 | .agg [.agg xs,.bool fr,.list false ys,.int .i64 rm,.list false ts]=>if (Nat.beq xs.length 16&&(xs.all prB&&okS ⟨zF,fr,ys,rm,ts⟩))=true then some ⟨fun i=>prP (xs.getD i .junk),fr,ys,rm,ts⟩ else none
 |_=>none
def edOf:List V→Option (List (Int×FS))
 |[]=>some []
 | .agg [.int .i64 n,v]::r=>match fsOf v with
  |some s=>match edOf r with
   |some es=>some ((n,s)::es)
   |none=>none
  |none=>none
 |_=>none
def letC (c:UInt8) (v:V):Bool:=!(c==83)&&(!(c==80)&&fit1 (c.toNat:Int) (tagV v) (numV v) (kidsV v))
def fitL:List UInt8→List V→Bool
 |[],[]=>true
 |c::r,v::q=>letC c v&&fitL r q
 |_,_=>false
def fitC (op:Int) (ag:List V):Bool:=decide (1≤op)&&(decide (op≤51)&&fitL (sigS op) ag)
def dL (m:MD) (op:Int) (ag:List V) (s:FS):LK:=doesG ⟨m,op,ag,s,s,[], !endS op,true⟩
def effC (m:MD):EF:=fun op ag s=>if (fitC op ag&&(!(op==3)&&(nilB s.ts&&(nilB (dL m op ag s).s.ts&&okS (dL m op ag s).o))))=true then
  match edOf (dL m op ag s).es with
  |some es=>if es.length≤1000 then some (if (dL m op ag s).rt=true then (if (dL m op ag s).g=true then (dL m op ag s).o else zFS) else zFS,if (dL m op ag s).rt=true then es else [],if (dL m op ag s).rt=true then (dL m op ag s).g else false,(dL m op ag s).rt) else none
  |none=>none
 else none
def b16t:List V→(V→Prop)→Prop
 |[.agg [.list false am,.list false im,.list false ex,.list false fu,.list false li,.list false co],.agg [.int .i64 fm,.int .i64 tm,.int .i64 en,.int .i64 ar]],k=>uB co∧MOk ⟨am,im,ex,fu,li,co⟩∧∃E n m,EFOk ⟨am,im,ex,fu,li,co⟩ E∧uY E co fm tm ar n=some (true,0,m)∧k (.tup [.own 48 [.list false (stV m)],.int .i64 0,.bool true])
 |_,_=>False
def b16f:List V→(V→Prop)→Prop
 |[.agg [.list false am,.list false im,.list false ex,.list false fu,.list false li,.list false co],.agg [.int .i64 fm,.int .i64 tm,.int .i64 en,.int .i64 ar]],k=>uB co∧MOk ⟨am,im,ex,fu,li,co⟩∧∃E n a m,EFOk ⟨am,im,ex,fu,li,co⟩ E∧uY E co fm tm ar n=some (false,a,m)∧k (.tup [.own 0 [],.int .i64 a,.bool false])
 |_,_=>False
def kA (p:Int):Int×Int:=if (p==0)=true then (1,7) else if (p==1)=true then (2,1) else if (p==2)=true then (2,0) else (3,0)
def kB (p a:Int):Int:=if (p==0)=true then 1 else if (p==1)=true then 2 else if (p==2)=true then 4 else a
def sp12:SpT:=zM
def b12:List V→(V→Prop)→Prop
 |[.int .i64 n],k=>k (.agg [.int .i64 1,.int .i64 n,.list false []])
 |_,_=>False
def sp11:SpT:=zI 7 b7 (zI 8 b8 (zI 12 b12 (zI 13 b13 zM)))
def b11:List V→(V→Prop)→Prop
 |[.int .i64 v],k=>∀q,q=kA (place v 4)→k (.agg [.int .i64 q.1,.int .i64 q.2,.list false []])
 |_,_=>False
def sp14:SpT:=zI 8 b8 zM
def b14:List V→(V→Prop)→Prop
 |[.int .i64 v,.int .i64 a],k=>∀q,q=kB (place v 4) a→k (.int .i64 q)
 |_,_=>False
def sp10:SpT:=zI 5 b5 (zI 6 b6 (zI 7 b7 (zI 9 b9 (zI 16 b16f zM))))
def b10:List V→(V→Prop)→Prop
 |[],k=>k (.bool true)
 |_,_=>False
def sp4:SpT:=zI 5 b5 (zI 6 b6 (zI 7 b7 (zI 9 b9 (zI 10 b10 (zI 11 b11 (zI 13 b13 (zI 14 b14 (zI 15 b15 (zI 16 b16t zM)))))))))
def t28B:V→Bool
 | .agg [.int .i64 _,.int .i64 _,.list false []]=>true
 |_=>false
def tG:V→Bool
 | .agg [.int .i64 _,.list false ag]=>ag.all t28B
 |_=>false
def CL (q6 q14:Int×Int):List V:=[.agg [.int .i64 1,.list false [iV 0 1]],.agg [.int .i64 2,.list false [iV 2 1,iV 2 1,iV 0 1]],.agg [.int .i64 1,.list false [iV 0 2]],.agg [.int .i64 4,.list false [iV q6.1 q6.2,iV 3 1]],.agg [.int .i64 1,.list false [iV 0 3]],.agg [.int .i64 29,.list false [iV 5 4,iV 3 0,iV 3 1]],.agg [.int .i64 4,.list false [iV q14.1 q14.2,iV 3 1]],.agg [.int .i64 5,.list false [iV 5 3]],.agg [.int .i64 1,.list false [iV 0 4]],.agg [.int .i64 11,.list false []],.agg [.int .i64 3,.list false []]]
def mCL (q6 q14:Int×Int):MD:=⟨[.str [102]],[],[],[],[],CL q6 q14⟩
def CA:List V:=[.agg [.int .i64 1,.list false [iV 0 1]],.agg [.int .i64 2,.list false [iV 2 1,iV 2 1,iV 0 0]],.agg [.int .i64 1,.list false [iV 0 2]],.agg [.int .i64 11,.list false []],.agg [.int .i64 3,.list false []]]
def mCA:MD:=⟨[],[],[],[],[],CA⟩
def ckA:Option (Bool×Int×SM)→Bool
 |some (false,a,_)=>a==3
 |_=>false
def ckL (x:Int):Option (Bool×Int×SM)→Bool
 |some (true,a,m)=>a==0&&(match uZ m 4 with
  |some s=>(match uZ m 9 with
   |some t=>(s.f 1).1==x&&((t.f 1).1==x&&((s.f 0).1==127&&(s.f 2).1==0))
   |none=>false)
  |none=>false)
 |_=>false
end GoL
