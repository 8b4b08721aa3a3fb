/- A part of the proof: a logic proved sound over the model; contracts; plain laws. -/
import Derived.Test.YteeaefidpkifbaaGE
import Derived.Test.YteeaefidpkifbaaProg
import Derived.KernelRfl
set_option linter.all false
open Go Go.Proofs
namespace GoL
def sigS (op:Int):List UInt8:=if (op==1) then [117] else if (op==10) then [117] else if (op==13) then [117] else if (op==14) then [117] else if (op==2) then [97,97,117] else if (op==4) then [115,100] else if (op==5) then [108] else if (op==6) then [117,108] else if (op==7) then [117,108] else if (op==8) then [117,108,117] else if (op==9) then [117,117] else if (op==12) then [117,117] else if (op==16) then [117,117] else if (op==15) then [121] else if (op==46) then [121] else if (op==47) then [121] else if (op==17) then [115,115,100] else if (op==18) then [83,100] else if (op==19) then [115,100,100] else if (op==20) then [115,117,100] else if (op==21) then [108,115] else if (op==22) then [108,115] else if (op==23) then [108,115] else if (op==24) then [108,115] else if (op==25) then [108,115] else if (op==26) then [108,115] else if (op==27) then [108,115] else if (op==28) then [108,115,117] else if (op==29) then [108,115,115] else if (op==30) then [108,115,115] else if (op==31) then [108,115,115] else if (op==32) then [108,115,115] else if (op==33) then [115,108,80] else if (op==34) then [100,100] else if (op==35) then [102,117,117,115,115,100] else if (op==36) then [102,117,115,100] else if (op==37) then [102,117,115,115,100] else if (op==38) then [108,115,117,120] else if (op==39) then [108,120,117,100] else if (op==40) then [108,120,117,117,100] else if (op==41) then [120,117,100] else if (op==42) then [108,120,117] else if (op==43) then [117,83,100] else if (op==44) then [117,83,100] else if (op==45) then [121,108] else if (op==48) then [115,115] else if (op==49) then [115] else if (op==50) then [115] else []
def endS (op:Int):Bool:=if (op==2) then true else if (op==3) then true else if (op==5) then true else if (op==7) then true else if (op==8) then true else if (op==11) then true else if (op==33) then true else if (op==48) then true else if (op==49) then true else if (op==50) then true else if (op==51) then true else false
def plainB (t n:Int) (ls:List V):Bool:=if (t==1) then (if ((ls.length:Int)==0) then (if decide (n≥-576460752303423488) then decide (n<576460752303423488) else false) else false) else if decide (t≥0) then (if decide (t<7) then (if ((ls.length:Int)==0) then (if decide (n≥0) then decide (n≤268435455) else false) else false) else false) else false
def regB (t n:Int):Bool:=if (t==3) then (if decide (n<16) then true else if (t==4) then decide (n<12) else false) else if (t==4) then decide (n<12) else false
def srcB (t n:Int):Bool:=if (t==1) then true else if (t==2) then true else if (t==6) then true else regB t n
def fit1 (c t n:Int) (ls:List V):Bool:=if (!plainB t n ls) then false else (if (c==117) then (t==0) else if (c==97) then (if (t==2) then decide (n>0) else false) else if (c==115) then srcB t n else if (c==100) then regB t n else if (c==120) then (if (t==3) then regB t n else false) else if (c==121) then (if (t==4) then regB t n else false) else if (c==108) then (if (t==5) then decide (n>0) else false) else (t==5))
def fitV (c:UInt8):V→Bool
 | .agg [.int _ t,.int _ n,.list _ ls]=>fit1 c.toNat t n ls
 |_=>false
def fitF:List UInt8→List V→Bool
 |c::s,v::l=>if fitV c v then fitF s l else false
 |_,_=>true
def fitsB (op:Int) (xs:List V):Bool:=if decide (op<1) then false else if decide (op>51) then false else if ((xs.length:Int) != ((sigS op).length:Int)) then false else fitF (sigS op) xs
def place (x n:Int):Int:=if decide (x.tmod n<0) then IntKind.i64.wrap (x.tmod n+n) else x.tmod n
def iV (t n:Int):V:=.agg [.int .i64 t,.int .i64 n,.list false []]
def b44:List V→(V→Prop)→Prop
 |[.int .i64 op],k=>k (.str (sigS op))
 |_,_=>False
def sp44:SpT:=zM
def b34:List V→(V→Prop)→Prop
 |[.int .i64 op],k=>k (.bool (endS op))
 |_,_=>False
def sp34:SpT:=zM
def b68:List V→(V→Prop)→Prop
 |[.agg [.int .i64 t,.int .i64 n,.list false ls]],k=>k (.bool (plainB t n ls))
 |_,_=>False
def sp68:SpT:=zM
def b70:List V→(V→Prop)→Prop
 |[.agg [.int .i64 t,.int .i64 n,.list false ls]],k=>k (.bool (regB t n))
 |_,_=>False
def sp70:SpT:=zM
def b69:List V→(V→Prop)→Prop
 |[.agg [.int .i64 t,.int .i64 n,.list false ls]],k=>k (.bool (srcB t n))
 |_,_=>False
def sp69:SpT:=zI 70 b70 (zM)
def b7:List V→(V→Prop)→Prop
 |[.int .i64 n],k=>k (.agg [.int .i64 2,.int .i64 n,.list false []])
 |_,_=>False
def sp7:SpT:=zM
def b13:List V→(V→Prop)→Prop
 |[.int .i64 n],k=>k (.agg [.int .i64 3,.int .i64 n,.list false []])
 |_,_=>False
def sp13:SpT:=zM
def b15:List V→(V→Prop)→Prop
 |[.int .i64 n],k=>k (.agg [.int .i64 5,.int .i64 n,.list false []])
 |_,_=>False
def sp15:SpT:=zM
def b6:List V→(V→Prop)→Prop
 |[.int .i64 n],k=>k (.agg [.int .i64 0,.int .i64 n,.list false []])
 |_,_=>False
def sp6:SpT:=zM
def b8:List V→(V→Prop)→Prop
 |[.int .i64 x,.int .i64 n],k=>(n≠0)∧k (.int .i64 (place x n))
 |_,_=>False
def sp8:SpT:=zM
def b5:List V→(V→Prop)→Prop
 |[.int .i64 op,.list false xs],k=>((∀v,List.Mem v xs→V.sz v=3)∧xs.length≤1000)∧k (.agg [.int .i64 op,.list false xs])
 |_,_=>False
def sp5:SpT:=zM
def b45:List V→(V→Prop)→Prop
 |[.int .u8 c,.agg [.int .i64 t,.int .i64 n,.list false ls]],k=>((c==83)=false∧(c==80)=false)∧k (.bool (fit1 c t n ls))
 |_,_=>False
def sp45:SpT:=zI 68 b68 (zI 69 b69 (zI 70 b70 (zM)))
def fitOk:List UInt8→List V→Prop
 |c::r,v::l=>(((c.toNat:Int)==83)=false∧((c.toNat:Int)==80)=false∧∃t n ls,v=.agg [.int .i64 t,.int .i64 n,.list false ls])∧fitOk r l
 |[],[]=>True
 |_,_=>False
def b33:List V→(V→Prop)→Prop
 |[.agg [.int .i64 op,.list false xs]],k=>(xs.length=(sigS op).length→fitOk (sigS op) xs)∧k (.bool (fitsB op xs))
 |_,_=>False
def ent33:List V→List Blk→KK→Prop
 |[.str sg,.list false xs,.int .i64 n,.int .i64 i],[],K=>n=xs.length∧xs.length≤9223372036854775807∧xs.length=sg.length∧fitOk sg xs∧i=0∧(fitF sg xs=true→K (.exit 0) 1000 [] [])∧(fitF sg xs=false→K .ret 1000 [(2,.gd true (.bool false))] [])
 |_,_,_=>False
def ls33:LsT:=lsAdd 0 1000 [3,26,27,28] [] ent33 noLs
def sp33:SpT:=zI 44 b44 (zI 45 b45 (zM))
def sp56:SpT:=zI 33 b33 (zM)
end GoL
