/- A part of the proof: a logic proved sound over the model; contracts; plain laws. -/
import Derived.Test.YteeaefidpkifbaaOP
import Derived.Test.YteeaefidpkifbaaProg
import Derived.KernelRfl
set_option linter.all false
open Go Go.Proofs
namespace GoL
inductive T28:V→Prop
 |mk (t n:Int) (ls:List V) (h:∀u,u∈ls→T28 u):T28 (.agg [.int .i64 t,.int .i64 n,.list false ls])
def tagV:V→Int
 | .agg (.int _ t::_)=>t
 |_=>0
def numV:V→Int
 | .agg [_,.int _ n,_]=>n
 |_=>0
def kidsV:V→List V
 | .agg [_,_,.list _ l]=>l
 |_=>[]
def AllS (p:Int→Prop) (n d i:Int):Prop:=∀m:Nat,i+m*d<n→p (i+m*d)
noncomputable def dec (p:Prop):Bool:=@decide p (Classical.propDecidable p)
def srcV (v:V):Bool:=srcB (tagV v) (numV v)
def plainV (v:V):Bool:=plainB (tagV v) (numV v) (kidsV v)
def listP (ls:List V) (i:Int):Prop:=(!plainV (getV ls i))=false∧(!srcV (getV ls i))=false
def ent67:List V→List Blk→KK→Prop
 |[.list false ls,.int .i64 n,.int .i64 i],[],K=>n=ls.length∧i=0∧ls.length≤9223372036854775807∧(∀u∈ls,T28 u)∧(AllS (listP ls) ls.length 1 0→K (.exit 0) 1000 [] [])∧(¬AllS (listP ls) ls.length 1 0→K .ret 1000 [(2,.gd true (.bool false))] [])
 |_,_,_=>False
def ls67:LsT:=lsAdd 0 1000 [6,7,8] [] ent67 noLs
def sp67:SpT:=zI 68 b68 (zI 69 b69 (zM))
def ends67_0:EndsL:=⟨1000,[6,7,8],[],0,1000,[],[],[2],[]⟩
def diffP (ls:List V) (i k:Int):Prop:=¬(tagV (getV ls k)=tagV (getV ls i)∧numV (getV ls k)=numV (getV ls i))
def okO (ls:List V) (i:Int):Prop:=plainV (getV ls i)=true∧(i.tmod 2=1→tagV (getV ls i)=5∧numV (getV ls i)>0)∧(i.tmod 2≠1→(tagV (getV ls i)=1∨tagV (getV ls i)=2)∧AllS (diffP ls i) i 2 0)
def inO (ls:List V):Prop:=(ls.length:Int).tmod 2=0∧AllS (okO ls) ls.length 1 0
def ent47i:List V→List Blk→KK→Prop
 |[.ptr 1000 0 [],.int .i64 i,.ptr 1005 0 [],.int .i64 k,.list false l2,.int .i64 m,.int .i64 j],[⟨none,false,.agg [.int .i64 t,.int .i64 n,.list false ls]⟩,⟨none,false,.agg [.int .i64 p,.int .i64 q,.list false lq]⟩],K=>k=0∧0≤i∧i<ls.length∧ls.length≤9223372036854775807∧(∀u∈ls,T28 u)∧tagV (getV ls i)=p∧numV (getV ls i)=q∧(AllS (diffP ls i) i 2 0→K (.exit 3) 1006 [(1,.ptr 1000 0 []),(12,.list false l2),(13,.int .i64 m),(14,.int .i64 j)] [(1000,⟨none,false,.agg [.int .i64 t,.int .i64 n,.list false ls]⟩)])∧(¬AllS (diffP ls i) i 2 0→K .ret 1006 [(2,.gd true (.bool false))] [])
 |_,_,_=>False
def ls47i:LsT:=lsAdd 3 1006 [1,3,4,5,12,13,14] [1000,1005] ent47i noLs
def ent66:List V→List Blk→KK→Prop
 |[.ptr 1000 0 [],.list false l2,.int .i64 m,.int .i64 i],[⟨none,false,.agg [.int .i64 t,.int .i64 n,.list false ls]⟩],K=>l2=ls∧m=ls.length∧i=0∧(∀u∈ls,T28 u)∧ls.length≤9223372036854775807∧(AllS (okO ls) ls.length 1 0→K (.exit 0) 1001 [] [])∧(¬AllS (okO ls) ls.length 1 0→K .ret 1001 [(2,.gd true (.bool false))] [])
 |_,_,_=>False
def ls66:LsT:=lsAdd 0 1001 [1,12,13,14] [1000] ent66 ls47i
def sp66:SpT:=zI 68 b68 (zM)
def ends66_0:EndsL:=⟨1001,[1,12,13,14],[1000],0,1001,[],[],[2],[]⟩
def ends66_1:EndsL:=⟨1006,[1,3,4,5,12,13,14],[1000,1005],3,1006,[1,12,13,14],[1000],[2],[]⟩
def b66:List V→(V→Prop)→Prop
 |[.agg [.int .i64 t,.int .i64 n,.list false ls]],k=>(∀u∈ls,T28 u)∧k (.bool (dec (inO ls)))
 |_,_=>False
def b67:List V→(V→Prop)→Prop
 |[.agg [.int .i64 t,.int .i64 n,.list false ls]],k=>(∀u∈ls,T28 u)∧k (.bool (dec (AllS (listP ls) ls.length 1 0)))
 |_,_=>False
noncomputable def bigO (c t n:Int) (ls:List V):Bool:=if (t != 7) then false else if (n != 0) then false else if decide ((ls.length:Int)>40) then false else if (c==80) then dec (inO ls) else dec (AllS (listP ls) ls.length 1 0)
noncomputable def letO (c t n:Int) (ls:List V):Bool:=if (c==83) then bigO c t n ls else if (c==80) then bigO c t n ls else fit1 c t n ls
def sp43g:SpT:=zI 66 b66 (zI 67 b67 (zI 68 b68 (zI 69 b69 (zI 70 b70 (zM)))))
def b43g:List V→(V→Prop)→Prop
 |[.int .u8 c,.agg [.int .i64 t,.int .i64 n,.list false ls]],k=>(∀u∈ls,T28 u)∧k (.bool (letO c t n ls))
 |_,_=>False
def okG (sg:List UInt8) (xs:List V) (i:Int):Prop:=letO ((sg.getD i.toNat 0).toNat:Int) (tagV (getV xs i)) (numV (getV xs i)) (kidsV (getV xs i))=true
noncomputable def fitsG (op:Int) (xs:List V):Bool:=if decide (op<1) then false else if decide (op>51) then false else if ((xs.length:Int) != ((sigS op).length:Int)) then false else dec (AllS (okG (sigS op) xs) xs.length 1 0)
def sp33g:SpT:=zI 44 b44 (zI 45 b43g (zM))
def ent33g:List V→List Blk→KK→Prop
 |[.str sg,.list false xs,.int .i64 n,.int .i64 i],[],K=>n=xs.length∧xs.length≤9223372036854775807∧xs.length=sg.length∧(∀u∈xs,T28 u)∧i=0∧(AllS (okG sg xs) xs.length 1 0→K (.exit 0) 1000 [] [])∧(¬AllS (okG sg xs) xs.length 1 0→K .ret 1000 [(2,.gd true (.bool false))] [])
 |_,_,_=>False
def ls33g:LsT:=lsAdd 0 1000 [3,26,27,28] [] ent33g noLs
def ends33g:EndsL:=⟨1000,[3,26,27,28],[],0,1000,[],[],[2],[]⟩
def b33g:List V→(V→Prop)→Prop
 |[.agg [.int .i64 op,.list false xs]],k=>(∀u∈xs,T28 u)∧k (.bool (fitsG op xs))
 |_,_=>False
def N0 (xs:List V):Int:=match getV xs 0 with
 | .agg [_,.int _ n,_]=>n
 |_=>0
def thr (b:Bool) (op:Int) (xs:List V):Bool:=if (!b) then false else if (op==2) then true else if (op==6) then true else if (op==9) then true else if (op==10) then true else if (op==17) then true else if (op==18) then true else if (op==43) then true else if (op==44) then true else if (op==48) then true else if (op==49) then true else if (op==50) then true else if (op==51) then true else if (op==35) then (N0 xs==0) else if (op==36) then (N0 xs==0) else if (op==37) then (N0 xs==0) else false
def b56g:List V→(V→Prop)→Prop
 |[.agg [.int .i64 op,.list false xs]],k=>(∀u∈xs,T28 u)∧k (.bool (thr (fitsG op xs) op xs))
 |_,_=>False
def sp56g:SpT:=zI 33 b33g (zM)
end GoL
