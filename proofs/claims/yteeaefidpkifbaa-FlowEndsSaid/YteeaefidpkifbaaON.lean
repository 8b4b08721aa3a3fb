/- A part of the proof: a logic proved sound over the model; contracts; plain laws. -/
import Derived.Test.YteeaefidpkifbaaGE
import Derived.Test.YteeaefidpkifbaaOD
set_option linter.all false
open Go Go.Proofs
namespace GoL
set_option maxRecDepth 100000
theorem n44 (op:Int) (r:V):wC Try.prog sp44 82 zB (zO []) noLs 0 (zC Try.f44) 1000 (zL [.int .i64 op] 0) [] (finK Try.prog none Try.f44.results.toList r)=(
 ∀(x0:Bool),
 x0=(op==1)→
 (x0=true→r=V.str [117])∧
 (x0=false→
 ∀(x4:Bool),
 x4=(op==10)→
 (x4=true→r=V.str [117])∧
 (x4=false→
 ∀(x8:Bool),
 x8=(op==13)→
 (x8=true→r=V.str [117])∧
 (x8=false→
 ∀(x12:Bool),
 x12=(op==14)→
 (x12=true→r=V.str [117])∧
 (x12=false→
 ∀(x16:Bool),
 x16=(op==2)→
 (x16=true→r=V.str [97,97,117])∧
 (x16=false→
 ∀(x20:Bool),
 x20=(op==4)→
 (x20=true→r=V.str [115,100])∧
 (x20=false→
 ∀(x24:Bool),
 x24=(op==5)→
 (x24=true→r=V.str [108])∧
 (x24=false→
 ∀(x28:Bool),
 x28=(op==6)→
 (x28=true→r=V.str [117,108])∧
 (x28=false→
 ∀(x32:Bool),
 x32=(op==7)→
 (x32=true→r=V.str [117,108])∧
 (x32=false→
 ∀(x36:Bool),
 x36=(op==8)→
 (x36=true→r=V.str [117,108,117])∧
 (x36=false→
 ∀(x40:Bool),
 x40=(op==9)→
 (x40=true→r=V.str [117,117])∧
 (x40=false→
 ∀(x44:Bool),
 x44=(op==12)→
 (x44=true→r=V.str [117,117])∧
 (x44=false→
 ∀(x48:Bool),
 x48=(op==16)→
 (x48=true→r=V.str [117,117])∧
 (x48=false→
 ∀(x52:Bool),
 x52=(op==15)→
 (x52=true→r=V.str [121])∧
 (x52=false→
 ∀(x56:Bool),
 x56=(op==46)→
 (x56=true→r=V.str [121])∧
 (x56=false→
 ∀(x60:Bool),
 x60=(op==47)→
 (x60=true→r=V.str [121])∧
 (x60=false→
 ∀(x64:Bool),
 x64=(op==17)→
 (x64=true→r=V.str [115,115,100])∧
 (x64=false→
 ∀(x68:Bool),
 x68=(op==18)→
 (x68=true→r=V.str [83,100])∧
 (x68=false→
 ∀(x72:Bool),
 x72=(op==19)→
 (x72=true→r=V.str [115,100,100])∧
 (x72=false→
 ∀(x76:Bool),
 x76=(op==20)→
 (x76=true→r=V.str [115,117,100])∧
 (x76=false→
 ∀(x80:Bool),
 x80=(op==21)→
 (x80=true→r=V.str [108,115])∧
 (x80=false→
 ∀(x84:Bool),
 x84=(op==22)→
 (x84=true→r=V.str [108,115])∧
 (x84=false→
 ∀(x88:Bool),
 x88=(op==23)→
 (x88=true→r=V.str [108,115])∧
 (x88=false→
 ∀(x92:Bool),
 x92=(op==24)→
 (x92=true→r=V.str [108,115])∧
 (x92=false→
 ∀(x96:Bool),
 x96=(op==25)→
 (x96=true→r=V.str [108,115])∧
 (x96=false→
 ∀(x100:Bool),
 x100=(op==26)→
 (x100=true→r=V.str [108,115])∧
 (x100=false→
 ∀(x104:Bool),
 x104=(op==27)→
 (x104=true→r=V.str [108,115])∧
 (x104=false→
 ∀(x108:Bool),
 x108=(op==28)→
 (x108=true→r=V.str [108,115,117])∧
 (x108=false→
 ∀(x112:Bool),
 x112=(op==29)→
 (x112=true→r=V.str [108,115,115])∧
 (x112=false→
 ∀(x116:Bool),
 x116=(op==30)→
 (x116=true→r=V.str [108,115,115])∧
 (x116=false→
 ∀(x120:Bool),
 x120=(op==31)→
 (x120=true→r=V.str [108,115,115])∧
 (x120=false→
 ∀(x124:Bool),
 x124=(op==32)→
 (x124=true→r=V.str [108,115,115])∧
 (x124=false→
 ∀(x128:Bool),
 x128=(op==33)→
 (x128=true→r=V.str [115,108,80])∧
 (x128=false→
 ∀(x132:Bool),
 x132=(op==34)→
 (x132=true→r=V.str [100,100])∧
 (x132=false→
 ∀(x136:Bool),
 x136=(op==35)→
 (x136=true→r=V.str [102,117,117,115,115,100])∧
 (x136=false→
 ∀(x140:Bool),
 x140=(op==36)→
 (x140=true→r=V.str [102,117,115,100])∧
 (x140=false→
 ∀(x144:Bool),
 x144=(op==37)→
 (x144=true→r=V.str [102,117,115,115,100])∧
 (x144=false→
 ∀(x148:Bool),
 x148=(op==38)→
 (x148=true→r=V.str [108,115,117,120])∧
 (x148=false→
 ∀(x152:Bool),
 x152=(op==39)→
 (x152=true→r=V.str [108,120,117,100])∧
 (x152=false→
 ∀(x156:Bool),
 x156=(op==40)→
 (x156=true→r=V.str [108,120,117,117,100])∧
 (x156=false→
 ∀(x160:Bool),
 x160=(op==41)→
 (x160=true→r=V.str [120,117,100])∧
 (x160=false→
 ∀(x164:Bool),
 x164=(op==42)→
 (x164=true→r=V.str [108,120,117])∧
 (x164=false→
 ∀(x168:Bool),
 x168=(op==43)→
 (x168=true→r=V.str [117,83,100])∧
 (x168=false→
 ∀(x172:Bool),
 x172=(op==44)→
 (x172=true→r=V.str [117,83,100])∧
 (x172=false→
 ∀(x176:Bool),
 x176=(op==45)→
 (x176=true→r=V.str [121,108])∧
 (x176=false→
 ∀(x180:Bool),
 x180=(op==48)→
 (x180=true→
 r=V.str [115,115])∧
 (x180=false→
 ∀(x184:Bool),
 x184=(op==49)→
 (x184=true→
 r=V.str [115])∧
 (x184=false→
 ∀(x188:Bool),
 x188=(op==50)→
 (x188=true→
 r=
 V.str [115])∧
 (x188=false→
 r=
 V.str
 []))))))))))))))))))))))))))))))))))))))))))))))))):=by kernel_rfl
theorem n34 (op:Int) (r:V):wC Try.prog sp34 17 zB (zO []) noLs 0 (zC Try.f34) 1000 (zL [.int .i64 op] 0) [] (finK Try.prog none Try.f34.results.toList r)=(
 ∀(x0:Bool),
 x0=(op==2)→
 (x0=true→r=V.bool true)∧
 (x0=false→
 ∀(x4:Bool),
 x4=(op==3)→
 (x4=true→r=V.bool true)∧
 (x4=false→
 ∀(x8:Bool),
 x8=(op==5)→
 (x8=true→r=V.bool true)∧
 (x8=false→
 ∀(x12:Bool),
 x12=(op==7)→
 (x12=true→r=V.bool true)∧
 (x12=false→
 ∀(x16:Bool),
 x16=(op==8)→
 (x16=true→r=V.bool true)∧
 (x16=false→
 ∀(x20:Bool),
 x20=(op==11)→
 (x20=true→r=V.bool true)∧
 (x20=false→
 ∀(x24:Bool),
 x24=(op==33)→
 (x24=true→r=V.bool true)∧
 (x24=false→
 ∀(x28:Bool),
 x28=(op==48)→
 (x28=true→r=V.bool true)∧(x28=false→∀(x32:Bool),x32=(op==49)→(x32=true→r=V.bool true)∧(x32=false→∀(x36:Bool),x36=(op==50)→(x36=true→r=V.bool true)∧(x36=false→∀(x40:Bool),x40=(op==51)→(x40=true→r=V.bool true)∧(x40=false→r=V.bool false)))))))))))):=by kernel_rfl
theorem n68 (t n:Int) (ls:List V) (r:V):wC Try.prog sp68 44 zB (zO []) noLs 0 (zC Try.f68) 1000 (zL [.agg [.int .i64 t,.int .i64 n,.list false ls]] 0) [] (finK Try.prog none Try.f68.results.toList r)=(
 ∀(x0:Bool),
 x0=(t==1)→
 (x0=true→List.length ls≤9223372036854775807→∀(x4:Int),x4=↑(List.length ls)→∀(x6:Bool),x6=(x4==0)→(x6=true→∀(x9:Bool),x9=decide (n≥-576460752303423488)→(x9=true→∀(x12:Bool),x12=decide (n<576460752303423488)→r=V.bool x12)∧(x9=false→r=V.bool false))∧(x6=false→r=V.bool false))∧
 (x0=false→
 ∀(x17:Bool),
 x17=decide (t≥0)→
 (x17=true→
 ∀(x20:Bool),
 x20=decide (t<7)→
 (x20=true→List.length ls≤9223372036854775807→∀(x24:Int),x24=↑(List.length ls)→∀(x26:Bool),x26=(x24==0)→(x26=true→∀(x29:Bool),x29=decide (n≥0)→(x29=true→∀(x32:Bool),x32=decide (n≤268435455)→r=V.bool x32)∧(x29=false→r=V.bool false))∧(x26=false→r=V.bool false))∧(x20=false→r=V.bool false))∧
 (x17=false→r=V.bool false))):=by kernel_rfl
theorem n70 (t n:Int) (ls:List V) (r:V):wC Try.prog sp70 21 zB (zO []) noLs 0 (zC Try.f70) 1000 (zL [.agg [.int .i64 t,.int .i64 n,.list false ls]] 0) [] (finK Try.prog none Try.f70.results.toList r)=(
 ∀(x0:Bool),
 x0=(t==3)→
 (x0=true→∀(x3:Bool),x3=decide (n<16)→(x3=true→r=V.bool true)∧(x3=false→∀(x7:Bool),x7=(t==4)→(x7=true→∀(x10:Bool),x10=decide (n<12)→r=V.bool x10)∧(x7=false→r=V.bool false)))∧(x0=false→∀(x14:Bool),x14=(t==4)→(x14=true→∀(x17:Bool),x17=decide (n<12)→r=V.bool x17)∧(x14=false→r=V.bool false))):=by kernel_rfl
theorem n69 (t n:Int) (ls:List V) (r:V):wC Try.prog sp69 11 zB (zO []) noLs 0 (zC Try.f69) 1000 (zL [.agg [.int .i64 t,.int .i64 n,.list false ls]] 0) [] (finK Try.prog none Try.f69.results.toList r)=(
 ∀(x0:Bool),x0=(t==1)→(x0=true→r=V.bool true)∧(x0=false→∀(x4:Bool),x4=(t==2)→(x4=true→r=V.bool true)∧(x4=false→∀(x8:Bool),x8=(t==6)→(x8=true→r=V.bool true)∧(x8=false→r=V.bool (regB t n))))):=by kernel_rfl
theorem n7 (n:Int) (r:V):wC Try.prog sp7 5 zB (zO []) noLs 0 (zC Try.f7) 1000 (zL [.int .i64 n] 0) [] (finK Try.prog none Try.f7.results.toList r)=(
 r=V.agg [.int .i64 2,.int .i64 n,.list false []]):=by kernel_rfl
theorem n13 (n:Int) (r:V):wC Try.prog sp13 5 zB (zO []) noLs 0 (zC Try.f13) 1000 (zL [.int .i64 n] 0) [] (finK Try.prog none Try.f13.results.toList r)=(
 r=V.agg [.int .i64 3,.int .i64 n,.list false []]):=by kernel_rfl
theorem n15 (n:Int) (r:V):wC Try.prog sp15 5 zB (zO []) noLs 0 (zC Try.f15) 1000 (zL [.int .i64 n] 0) [] (finK Try.prog none Try.f15.results.toList r)=(
 r=V.agg [.int .i64 5,.int .i64 n,.list false []]):=by kernel_rfl
theorem n6 (n:Int) (r:V):wC Try.prog sp6 5 zB (zO []) noLs 0 (zC Try.f6) 1000 (zL [.int .i64 n] 0) [] (finK Try.prog none Try.f6.results.toList r)=(
 r=V.agg [.int .i64 0,.int .i64 n,.list false []]):=by kernel_rfl
theorem n8 (x n:Int) (r:V):wC Try.prog sp8 15 zB (zO []) noLs 0 (zC Try.f8) 1000 (zL [.int .i64 x,.int .i64 n] 0) [] (finK Try.prog none Try.f8.results.toList r)=(
 (IntKind.i64=IntKind.i64∧(n=0→False))∧(True→∀(x2:Int),x2=Int.tmod x n→∀(x4:Bool),x4=decide (x2<0)→(x4=true→∀(x7:Int),x7=IntKind.wrap .i64 (x2+n)→r=V.int .i64 x7)∧(x4=false→r=V.int .i64 x2))):=by kernel_rfl
theorem n5 (op:Int) (xs:List V) (r:V):wC Try.prog sp5 9 zB (zO []) noLs 0 (zC Try.f5) 1000 (zL [.int .i64 op,.list false xs] 0) [] (finK Try.prog none Try.f5.results.toList r)=(
 (((true||false)=true∧True)∧(∀(v0:V),List.Mem v0 xs→V.sz v0=3)∧some 3=some 3∧true=true∧∃b2,some 40=some b2∧List.length xs*b2≤140737488355328∧List.length xs≤9223372036854775807)∧(True→List.length xs=List.length xs∧r=V.agg [.int .i64 op,.list false xs])):=by kernel_rfl
theorem n45 (c t n:Int) (ls:List V) (r:V):wC Try.prog sp45 89 zB (zO []) noLs 0 (zC Try.f45) 1000 (zL [.int .u8 c,.agg [.int .i64 t,.int .i64 n,.list false ls]] 0) [] (finK Try.prog none Try.f45.results.toList r)=(
 ∀(x0:Bool),
 x0=(c==83)→
 (x0=true→
 ∀(x3:Bool),
 x3=(t != 7)→
 (x3=true→r=V.bool false)∧(x3=false→∀(x7:Bool),x7=(n != 0)→(x7=true→r=V.bool false)∧(x7=false→List.length ls≤9223372036854775807→∀(x12:Int),x12=↑(List.length ls)→∀(x14:Bool),x14=decide (x12>40)→(x14=true→r=V.bool false)∧(x14=false→∀(x18:Bool),x18=(c==80)→(x18=true→False)∧(x18=false→False)))))∧
 (x0=false→
 ∀(x23:Bool),
 x23=(c==80)→
 (x23=true→
 ∀(x26:Bool),
 x26=(t != 7)→
 (x26=true→r=V.bool false)∧
 (x26=false→∀(x30:Bool),x30=(n != 0)→(x30=true→r=V.bool false)∧(x30=false→List.length ls≤9223372036854775807→∀(x35:Int),x35=↑(List.length ls)→∀(x37:Bool),x37=decide (x35>40)→(x37=true→r=V.bool false)∧(x37=false→∀(x41:Bool),x41=(c==80)→(x41=true→False)∧(x41=false→False)))))∧
 (x23=false→
 ∀(x46:Bool),
 x46=!plainB t n ls→
 (x46=true→r=V.bool false)∧
 (x46=false→
 ∀(x50:Bool),
 x50=(c==117)→
 (x50=true→∀(x53:Bool),x53=(t==0)→r=V.bool x53)∧
 (x50=false→
 ∀(x56:Bool),
 x56=(c==97)→
 (x56=true→∀(x59:Bool),x59=(t==2)→(x59=true→∀(x62:Bool),x62=decide (n>0)→r=V.bool x62)∧(x59=false→r=V.bool false))∧
 (x56=false→
 ∀(x66:Bool),
 x66=(c==115)→
 (x66=true→r=V.bool (srcB t n))∧
 (x66=false→
 ∀(x70:Bool),
 x70=(c==100)→
 (x70=true→r=V.bool (regB t n))∧
 (x70=false→
 ∀(x74:Bool),
 x74=(c==120)→
 (x74=true→∀(x77:Bool),x77=(t==3)→(x77=true→r=V.bool (regB t n))∧(x77=false→r=V.bool false))∧
 (x74=false→
 ∀(x82:Bool),
 x82=(c==121)→
 (x82=true→∀(x85:Bool),x85=(t==4)→(x85=true→r=V.bool (regB t n))∧(x85=false→r=V.bool false))∧
 (x82=false→∀(x90:Bool),x90=(c==108)→(x90=true→∀(x93:Bool),x93=(t==5)→(x93=true→∀(x96:Bool),x96=decide (n>0)→r=V.bool x96)∧(x93=false→r=V.bool false))∧(x90=false→∀(x100:Bool),x100=(t==5)→r=V.bool x100))))))))))):=by kernel_rfl
theorem n33 (op:Int) (xs:List V) (r:V):wC Try.prog sp33 40 zB (zN Try.f33) ls33 0 (zC Try.f33) 1000 (zL [.agg [.int .i64 op,.list false xs]] 0) [] (finK Try.prog none Try.f33.results.toList r)=(
 ∀(x0:Bool),
 x0=decide (op<1)→
 (x0=true→r=V.bool false)∧
 (x0=false→
 ∀(x4:Bool),
 x4=decide (op>51)→
 (x4=true→r=V.bool false)∧
 (x4=false→
 List.length xs≤9223372036854775807→
 ∀(x9:Int),
 x9=↑(List.length xs)→
 List.length (sigS op)≤9223372036854775807→
 ∀(x12:Int),
 x12=↑(List.length (sigS op))→
 ∀(x14:Bool),
 x14=(x9 != x12)→
 (x14=true→r=V.bool false)∧
 (x14=false→List.length xs≤9223372036854775807→∀(x19:Int),x19=↑(List.length xs)→x19=↑(List.length xs)∧List.length xs≤9223372036854775807∧List.length xs=List.length (sigS op)∧fitOk (sigS op) xs∧Int.ofNat 0=0∧(fitF (sigS op) xs=true→r=V.bool true)∧(fitF (sigS op) xs=false→r=V.bool false))))):=by kernel_rfl
theorem n56 (op:Int) (xs:List V) (r:V):wC Try.prog sp56 31 zB (zO []) noLs 0 (zC Try.f56) 1000 (zL [.agg [.int .i64 op,.list false xs]] 0) [] (finK Try.prog none Try.f56.results.toList r)=(
 (List.length xs=List.length (sigS op)→fitOk (sigS op) xs)∧
 ∀(x1:Bool),
 x1=!fitsB op xs→
 (x1=true→r=V.bool false)∧
 (x1=false→
 ∀(x5:Bool),
 x5=(op==2)→
 (x5=true→r=V.bool true)∧
 (x5=false→
 ∀(x9:Bool),
 x9=(op==6)→
 (x9=true→r=V.bool true)∧
 (x9=false→
 ∀(x13:Bool),
 x13=(op==9)→
 (x13=true→r=V.bool true)∧
 (x13=false→
 ∀(x17:Bool),
 x17=(op==10)→
 (x17=true→r=V.bool true)∧
 (x17=false→
 ∀(x21:Bool),
 x21=(op==17)→
 (x21=true→r=V.bool true)∧
 (x21=false→
 ∀(x25:Bool),
 x25=(op==18)→
 (x25=true→r=V.bool true)∧
 (x25=false→
 ∀(x29:Bool),
 x29=(op==43)→
 (x29=true→r=V.bool true)∧
 (x29=false→
 ∀(x33:Bool),
 x33=(op==44)→
 (x33=true→r=V.bool true)∧
 (x33=false→
 ∀(x37:Bool),
 x37=(op==48)→
 (x37=true→r=V.bool true)∧
 (x37=false→
 ∀(x41:Bool),
 x41=(op==49)→
 (x41=true→r=V.bool true)∧
 (x41=false→
 ∀(x45:Bool),
 x45=(op==50)→
 (x45=true→r=V.bool true)∧
 (x45=false→
 ∀(x49:Bool),
 x49=(op==51)→
 (x49=true→r=V.bool true)∧
 (x49=false→
 ∀(x53:Bool),
 x53=(op==35)→
 (x53=true→Int.ofNat 0≤0∧(0:Int)<↑(List.length xs)∧∃n70 n71 l58,getV xs 0=V.agg [.int .i64 n70,.int .i64 n71,.list false l58]∧∀(x59:Bool),x59=(n71==0)→r=V.bool x59)∧
 (x53=false→
 ∀(x62:Bool),
 x62=(op==36)→
 (x62=true→Int.ofNat 0≤0∧(0:Int)<↑(List.length xs)∧∃n81 n82 l67,getV xs 0=V.agg [.int .i64 n81,.int .i64 n82,.list false l67]∧∀(x68:Bool),x68=(n82==0)→r=V.bool x68)∧
 (x62=false→
 ∀(x71:Bool),
 x71=(op==37)→(x71=true→Int.ofNat 0≤0∧(0:Int)<↑(List.length xs)∧∃n90 n91 l76,getV xs 0=V.agg [.int .i64 n90,.int .i64 n91,.list false l76]∧∀(x77:Bool),x77=(n91==0)→r=V.bool x77)∧(x71=false→r=V.bool false))))))))))))))))):=by kernel_rfl
end GoL
