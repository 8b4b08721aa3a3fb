/- A part of the proof: a logic proved sound over the model; contracts; plain laws. -/
import Derived.Test.YteeaefidpkifbaaF8L
import Derived.Test.YteeaefidpkifbaaProg
import Derived.KernelRfl
set_option linter.all false
open Go Go.Proofs
namespace GoL
def sp3:SpT:=zI 5 b5 (zI 6 b6 (zI 7 b7 (zI 8 b8 (zI 9 b9 (zI 10 b10 zM)))))
def numI:V→Int
 | .int _ n=>n
 |_=>0
def hdL (a b c:Int):List V:=[.agg [.int .i64 1,.list false [iV 0 a]],.agg [.int .i64 2,.list false [iV 2 1,iV 2 1,iV 0 b]],.agg [.int .i64 1,.list false [iV 0 c]]]
def nF (xs:List V):List Nat:=xs.map fun v=>(place (numI v) 5).toNat
def atF:Int→List Nat→List V
 |_,[]=>[]
 |p,n::r=>.int .i64 p::atF (p+3+n) r
def ent3i:List V→List Blk→KK→Prop
 |[.list false xs,.int .i64 how,.sl 1004 a,.sl 1005 b,.int .i64 i,.int .i64 j],[⟨some 26,false,.agg cs⟩,⟨some 3,false,.agg ts⟩],K=>a=cs.length∧b=ts.length∧j=0∧NLs xs∧0≤i∧i<xs.length∧cs.length≤1000∧NoIds cs∧NoIds ts∧∀cs',cs'=cs++List.replicate (place (numI (getV xs i)) 5).toNat o11→K (.exit 2) 1043 [(0,.list false xs),(1,.int .i64 how),(5,.sl 1004 cs'.length),(6,.sl 1005 b),(7,.int .i64 i)] [(1004,⟨some 26,false,.agg cs'⟩),(1005,⟨some 3,false,.agg ts⟩)]
 |vs,ks,_=>False
def ls3i:LsT:=lsAdd 2 1043 [0,1,5,6,7,8] [1004,1005] ent3i noLs
def ent3a:List V→List Blk→KK→Prop
 |[.list false xs,.int .i64 how,.nils,.nils,.int .i64 i],[],K=>i=0∧NLs xs∧xs.length≤9223372036854775807∧∀cs ts,cs=codeF 0 (nF (List.take 10 xs))→ts=atF 0 (nF (List.take 10 xs))→K (.exit 0) 1006 [(0,.list false xs),(1,.int .i64 how),(5,.sl 1004 cs.length),(6,.sl 1005 ts.length)] [(1004,⟨some 26,false,.agg cs⟩),(1005,⟨some 3,false,.agg ts⟩)]
 |vs,ks,_=>False
def ent3b:List V→List Blk→KK→Prop
 |[.int .i64 how,.sl 1004 a,.sl 1005 b,.list false ps,.int .i64 i],[⟨some 26,fz,.agg cs⟩,⟨some 3,false,.agg ts⟩],K=>a=cs.length∧b=ts.length∧i=0∧∃ns:List Nat,cs=codeF 0 ns∧ts=atF 0 ns∧ps=partF 0 0 ns∧ns.length≤10∧(∀n∈ns,n≤4)∧fz=true∧K (.exit 4) 1034 [(1,.int .i64 how),(5,.sl 1004 a)] [(1004,⟨some 26,true,.agg cs⟩)]
 |vs,ks,_=>False
def ls3b:LsT:=lsAdd 4 1034 [1,5,6,12,15] [1004,1005] ent3b noLs
def ls3:LsT:=lsAdd 0 1004 [0,1,5,6,7] [] ent3a ls3b
def ends3_0:EndsL:=⟨1006,[0,1,5,6,7],[1004,1005],0,1006,[0,1,5,6],[1004,1005],[],[]⟩
def ends3_1:EndsL:=⟨1043,[0,1,5,6,7,8],[1004,1005],2,1043,[0,1,5,6,7],[1004,1005],[],[]⟩
def ends3_2:EndsL:=⟨1034,[1,5,6,12,15],[1004,1005],4,1034,[1,5],[1004],[4],[]⟩
end GoL
