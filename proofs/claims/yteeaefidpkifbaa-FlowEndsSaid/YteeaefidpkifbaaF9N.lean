/- A part of the proof: a logic proved sound over the model; contracts; plain laws. -/
import Derived.Test.YteeaefidpkifbaaF9D
set_option linter.all false
open Go Go.Proofs
namespace GoL
set_option maxRecDepth 100000
theorem nl3_0 (xs cs ts:List V) (how i:Int) (Nx Ex Rt:List V→List Blk→Prop):wC Try.prog sp3 196 zB (zN Try.f3) ls3i 0 (zP Try.f3 0).2 1006 (List.zip [0,1,5,6,7] [.list false xs,.int .i64 how,.sl 1004 cs.length,.sl 1005 ts.length,.int .i64 i]) (List.zip [1004,1005] [⟨some 26,false,.agg cs⟩,⟨some 3,false,.agg ts⟩]) (endK ends3_0 Nx Ex Rt)=(
 List.length xs≤9223372036854775807→
 ∀(x1:Int),
 x1=↑(List.length xs)→
 ∀(x3:Bool),
 x3=decide (i<x1)→
 (x3=true→
 ∀(x6:Bool),
 x6=decide (i<10)→
 (x6=true→
 List.length cs=List.length cs∧
 (List.length cs≤9223372036854775807→
 ∀(x10:Int),
 x10=↑(List.length cs)→
 (List.length ts=List.length ts∧
 3=3∧((true||false)=true∧1=List.length [V.int .i64 x10])∧(∀(v12:V),List.Mem v12 [V.int .i64 x10]→V.sz v12=1)∧some 1=some 1∧true=true∧∃b14,some 8=some b14∧(List.length ts+List.length [V.int .i64 x10])*b14≤140737488355328∧List.length ts+List.length [V.int .i64 x10]≤9223372036854775807)∧
 (True→
 ∀(x16:Int),
 x16=IntKind.wrap .i64 (2*i)→
 ∀(x18:Int),
 x18=IntKind.wrap .i64 (x16+1)→
 ((∀(v20:V),List.Mem v20 [V.agg [.int .i64 0,.int .i64 x18,.list false []]]→V.sz v20=3)∧List.length [V.agg [.int .i64 0,.int .i64 x18,.list false []]]≤1000)∧
 ((∀(v22:V),List.Mem v22 [V.agg [.int .i64 2,.int .i64 1,.list false []],V.agg [.int .i64 2,.int .i64 1,.list false []],V.agg [.int .i64 0,.int .i64 i,.list false []]]→V.sz v22=3)∧
 List.length [V.agg [.int .i64 2,.int .i64 1,.list false []],V.agg [.int .i64 2,.int .i64 1,.list false []],V.agg [.int .i64 0,.int .i64 i,.list false []]]≤1000)∧
 ∀(x24:Int),
 x24=IntKind.wrap .i64 (2*i)→
 ∀(x26:Int),
 x26=IntKind.wrap .i64 (x24+2)→
 ((∀(v28:V),List.Mem v28 [V.agg [.int .i64 0,.int .i64 x26,.list false []]]→V.sz v28=3)∧List.length [V.agg [.int .i64 0,.int .i64 x26,.list false []]]≤1000)∧
 (List.length cs=List.length cs∧
 26=26∧
 ((true||false)=true∧True)∧
 (∀(v30:V),
 List.Mem v30
 (hdL x18 i x26)→
 V.sz v30=2)∧
 some 2=some 2∧
 true=true∧
 ∃b32,
 some 32=some b32∧
 (List.length cs+
 List.length
 (hdL x18 i x26))*
 b32≤
 140737488355328∧
 List.length cs+
 List.length
 (hdL x18 i x26)≤
 9223372036854775807)∧
 (True→
 (∀(v34:V),
 List.Mem v34
 (cs++
 (hdL x18 i x26))→
 V.ids v34=[])∧
 (∀(v36:V),List.Mem v36 (ts++[V.int .i64 x10])→V.ids v36=[])∧
 List.length cs+
 List.length
 (hdL x18 i x26)=
 List.length
 (cs++
 (hdL x18 i x26))∧
 List.length ts+List.length [V.int .i64 x10]=List.length (ts++[V.int .i64 x10])∧
 Int.ofNat 0=0∧
 NLs xs∧
 0≤i∧
 i<↑(List.length xs)∧
 List.length
 (cs++
 (hdL x18 i x26))≤
 1000∧
 (∀(v38:V),
 List.Mem v38
 (cs++
 (hdL x18 i x26))→
 V.ids v38=[])∧
 (∀(v40:V),List.Mem v40 (ts++[V.int .i64 x10])→V.ids v40=[])∧
 ∀(cs'42:List V),
 cs'42=
 cs++
 (hdL x18 i x26)++
 List.replicate (Int.toNat (place (numI (getV xs i)) 5)) (o11)→
 ∀(x44:Int),
 x44=IntKind.wrap .i64 (i+1)→
 (∀(v46:V),List.Mem v46 cs'42→V.ids v46=[])∧
 (∀(v48:V),List.Mem v48 (ts++[V.int .i64 x10])→V.ids v48=[])∧
 Nx [V.list false xs,V.int .i64 how,V.sl 1004 (List.length cs'42),V.sl 1005 (List.length ts+List.length [V.int .i64 x10]),V.int .i64 x44] [⟨some 26,false,V.agg cs'42⟩,⟨some 3,false,V.agg (ts++[V.int .i64 x10])⟩]))))∧
 (x6=false→(∀(v51:V),List.Mem v51 cs→V.ids v51=[])∧(∀(v53:V),List.Mem v53 ts→V.ids v53=[])∧Ex [V.list false xs,V.int .i64 how,V.sl 1004 (List.length cs),V.sl 1005 (List.length ts)] [⟨some 26,false,V.agg cs⟩,⟨some 3,false,V.agg ts⟩]))∧
 (x3=false→(∀(v56:V),List.Mem v56 cs→V.ids v56=[])∧(∀(v58:V),List.Mem v58 ts→V.ids v58=[])∧Ex [V.list false xs,V.int .i64 how,V.sl 1004 (List.length cs),V.sl 1005 (List.length ts)] [⟨some 26,false,V.agg cs⟩,⟨some 3,false,V.agg ts⟩])):=by kernel_rfl
theorem nl3_1 (xs cs ts:List V) (how i j:Int) (Nx Ex Rt:List V→List Blk→Prop):wC Try.prog sp3 196 zB (zN Try.f3) noLs 2 (lin (zP Try.f3 0) 0).2 1043 (List.zip [0,1,5,6,7,8] [.list false xs,.int .i64 how,.sl 1004 cs.length,.sl 1005 ts.length,.int .i64 i,.int .i64 j]) (List.zip [1004,1005] [⟨some 26,false,.agg cs⟩,⟨some 3,false,.agg ts⟩]) (endK ends3_1 Nx Ex Rt)=(
 0≤i∧
 i<↑(List.length xs)∧
 ∃n0,
 getV xs i=V.int .i64 n0∧
 Int.ofNat 5≠0∧
 ∀(x1:Bool),
 x1=decide (j<place n0 5)→
 (x1=true→
 ((∀(v4:V),List.Mem v4 []→V.sz v4=3)∧0≤1000)∧
 (List.length cs=List.length cs∧
 26=26∧
 ((true||false)=true∧True)∧
 (∀(v6:V),List.Mem v6 [o11]→V.sz v6=2)∧some 2=some 2∧true=true∧∃b8,some 32=some b8∧(List.length cs+List.length [o11])*b8≤140737488355328∧List.length cs+List.length [o11]≤9223372036854775807)∧
 (True→
 ∀(x10:Int),
 x10=IntKind.wrap .i64 (j+1)→
 (∀(v12:V),List.Mem v12 (cs++[o11])→V.ids v12=[])∧
 (∀(v14:V),List.Mem v14 ts→V.ids v14=[])∧
 Nx [V.list false xs,V.int .i64 how,V.sl 1004 (List.length cs+List.length [o11]),V.sl 1005 (List.length ts),V.int .i64 i,V.int .i64 x10] [⟨some 26,false,V.agg (cs++[o11])⟩,⟨some 3,false,V.agg ts⟩]))∧
 (x1=false→(∀(v17:V),List.Mem v17 cs→V.ids v17=[])∧(∀(v19:V),List.Mem v19 ts→V.ids v19=[])∧Ex [V.list false xs,V.int .i64 how,V.sl 1004 (List.length cs),V.sl 1005 (List.length ts),V.int .i64 i] [⟨some 26,false,V.agg cs⟩,⟨some 3,false,V.agg ts⟩])):=by kernel_rfl
theorem nl3_2 (cs ts ps:List V) (how i:Int) (Nx Ex Rt:List V→List Blk→Prop):wC Try.prog sp3 196 zB (zN Try.f3) noLs 4 (zP Try.f3 1).2 1034 (List.zip [1,5,6,12,15] [.int .i64 how,.sl 1004 cs.length,.sl 1005 ts.length,.list false ps,.int .i64 i]) (List.zip [1004,1005] [⟨some 26,true,.agg cs⟩,⟨some 3,false,.agg ts⟩]) (endK ends3_2 Nx Ex Rt)=(
 List.length ps≤9223372036854775807→
 ∀(x1:Int),
 x1=↑(List.length ps)→
 ∀(x3:Bool),
 x3=decide (i<x1)→
 (x3=true→
 List.length cs=List.length cs∧
 (List.length cs≤9223372036854775807→
 ∀(x7:Int),
 x7=↑(List.length cs)→
 ∀(x9:Int),
 x9=IntKind.wrap .i64 (i+1)→
 List.length ts=List.length ts∧
 (List.length ts≤9223372036854775807→
 ∀(x12:Int),
 x12=↑(List.length ts)→
 ∀(x14:Bool),
 x14=decide (x9<x12)→
 (x14=true→
 ∀(x17:Int),
 x17=IntKind.wrap .i64 (i+1)→
 List.length ts=List.length ts∧
 0≤x17∧
 x17<↑(List.length ts)∧
 some 1=some 1∧
 ∃n19,
 subQ (V.agg ts) [Int.toNat x17]=some (V.int .i64 n19)∧
 List.length ts=List.length ts∧
 offQ (V.agg ts) [Int.toNat x17]=Int.toNat x17*1∧
 0≤i∧
 i<↑(List.length ps)∧
 ∃n20 n21 n22 n23,
 getV ps i=V.agg [.int .i64 n20,.int .i64 n21,.int .i64 n22,.int .i64 n23]∧
 List.length ts=List.length ts∧
 0≤i∧
 i<↑(List.length ts)∧
 some 1=some 1∧
 ∃n24,
 subQ (V.agg ts) [Int.toNat i]=some (V.int .i64 n24)∧
 List.length ts=List.length ts∧
 offQ (V.agg ts) [Int.toNat i]=Int.toNat i*1∧
 ∀(x25:Bool),
 x25=(n20 != n24)→
 (x25=true→Rt [V.gd true (V.bool false)] [])∧
 (x25=false→
 0≤i∧
 i<↑(List.length ps)∧
 ∃n29 n30 n31 n32,
 getV ps i=V.agg [.int .i64 n29,.int .i64 n30,.int .i64 n31,.int .i64 n32]∧
 ∀(x33:Bool),
 x33=(n30 != n19)→
 (x33=true→Rt [V.gd true (V.bool false)] [])∧
 (x33=false→
 0≤i∧
 i<↑(List.length ps)∧
 ∃n37 n38 n39 n40,
 getV ps i=V.agg [.int .i64 n37,.int .i64 n38,.int .i64 n39,.int .i64 n40]∧
 ∀(x41:Int),
 x41=IntKind.wrap .i64 (2*i)→
 ∀(x43:Int),
 x43=IntKind.wrap .i64 (x41+2)→
 ∀(x45:Bool),
 x45=(n39 != x43)→
 (x45=true→Rt [V.gd true (V.bool false)] [])∧
 (x45=false→
 0≤i∧
 i<↑(List.length ps)∧
 ∃n49 n50 n51 n52,
 getV ps i=V.agg [.int .i64 n49,.int .i64 n50,.int .i64 n51,.int .i64 n52]∧
 ∀(x53:Bool),
 x53=(n52 != i)→
 (x53=true→Rt [V.gd true (V.bool false)] [])∧
 (x53=false→
 ∀(x57:Int),
 x57=IntKind.wrap .i64 (i+1)→
 (∀(v59:V),List.Mem v59 cs→V.ids v59=[])∧
 (∀(v61:V),List.Mem v61 ts→V.ids v61=[])∧
 Nx [V.int .i64 how,V.sl 1004 (List.length cs),V.sl 1005 (List.length ts),V.list false ps,V.int .i64 x57] [⟨some 26,true,V.agg cs⟩,⟨some 3,false,V.agg ts⟩])))))∧
 (x14=false→
 0≤i∧
 i<↑(List.length ps)∧
 ∃n64 n65 n66 n67,
 getV ps i=V.agg [.int .i64 n64,.int .i64 n65,.int .i64 n66,.int .i64 n67]∧
 List.length ts=List.length ts∧
 0≤i∧
 i<↑(List.length ts)∧
 some 1=some 1∧
 ∃n68,
 subQ (V.agg ts) [Int.toNat i]=some (V.int .i64 n68)∧
 List.length ts=List.length ts∧
 offQ (V.agg ts) [Int.toNat i]=Int.toNat i*1∧
 ∀(x69:Bool),
 x69=(n64 != n68)→
 (x69=true→Rt [V.gd true (V.bool false)] [])∧
 (x69=false→
 0≤i∧
 i<↑(List.length ps)∧
 ∃n73 n74 n75 n76,
 getV ps i=V.agg [.int .i64 n73,.int .i64 n74,.int .i64 n75,.int .i64 n76]∧
 ∀(x77:Bool),
 x77=(n74 != x7)→
 (x77=true→Rt [V.gd true (V.bool false)] [])∧
 (x77=false→
 0≤i∧
 i<↑(List.length ps)∧
 ∃n81 n82 n83 n84,
 getV ps i=V.agg [.int .i64 n81,.int .i64 n82,.int .i64 n83,.int .i64 n84]∧
 ∀(x85:Int),
 x85=IntKind.wrap .i64 (2*i)→
 ∀(x87:Int),
 x87=IntKind.wrap .i64 (x85+2)→
 ∀(x89:Bool),
 x89=(n83 != x87)→
 (x89=true→Rt [V.gd true (V.bool false)] [])∧
 (x89=false→
 0≤i∧
 i<↑(List.length ps)∧
 ∃n93 n94 n95 n96,
 getV ps i=V.agg [.int .i64 n93,.int .i64 n94,.int .i64 n95,.int .i64 n96]∧
 ∀(x97:Bool),
 x97=(n96 != i)→
 (x97=true→Rt [V.gd true (V.bool false)] [])∧
 (x97=false→
 ∀(x101:Int),
 x101=IntKind.wrap .i64 (i+1)→
 (∀(v103:V),List.Mem v103 cs→V.ids v103=[])∧
 (∀(v105:V),List.Mem v105 ts→V.ids v105=[])∧
 Nx [V.int .i64 how,V.sl 1004 (List.length cs),V.sl 1005 (List.length ts),V.list false ps,V.int .i64 x101] [⟨some 26,true,V.agg cs⟩,⟨some 3,false,V.agg ts⟩]))))))))∧
 (x3=false→(∀(v108:V),List.Mem v108 cs→V.ids v108=[])∧Ex [V.int .i64 how,V.sl 1004 (List.length cs)] [⟨some 26,true,V.agg cs⟩])):=by kernel_rfl
theorem n3 (xs:List V) (how:Int) (r:V):wC Try.prog sp3 196 zB (zN Try.f3) ls3 0 (zC Try.f3) 1000 (zL [.list false xs,.int .i64 how] 0) [] (finK Try.prog none Try.f3.results.toList r)=(
 Int.ofNat 0=0∧
 NLs xs∧
 List.length xs≤9223372036854775807∧
 ∀(cs0 ts1:List V),
 cs0=codeF 0 (nF (List.take 10 xs))→
 ts1=atF 0 (nF (List.take 10 xs))→
 List.length ts1=List.length ts1∧
 (List.length ts1≤9223372036854775807→
 ∀(x5:Int),
 x5=↑(List.length ts1)→
 ∀(x7:Bool),
 x7=(x5==0)→
 (x7=true→uB [oE]∧∀(p10:List V×Int×Bool),p10=([],0,false)→∀(x12:Bool),x12=!(Prod.snd p10).2→(x12=true→r=V.bool true)∧(x12=false→r=V.bool false))∧
 (x7=false→
 (List.length cs0=List.length cs0∧
 26=26∧
 ((true||false)=true∧True)∧
 [oE]≠[]∧
 (∀(v17:V),List.Mem v17 [oE]→V.sz v17=2)∧some 2=some 2∧true=true∧∃b19,some 32=some b19∧(List.length cs0+List.length [oE])*b19≤140737488355328∧List.length cs0+List.length [oE]≤9223372036854775807)∧
 (True→
 ∀(x21:List V),
 x21=cs0++[oE]→
 uB x21∧
 ∀(p23:List V×Int×Bool),
 p23=uK x21→
 ∀(x25:Bool),
 x25=!(Prod.snd p23).2→
 (x25=true→r=V.bool false)∧
 (x25=false→
 ∀(x29:Bool),
 x29=((Prod.snd p23).1 != 0)→
 (x29=true→r=V.bool false)∧
 (x29=false→
 List.length p23.1≤9223372036854775807→
 ∀(x34:Int),
 x34=↑(List.length p23.1)→
 List.length ts1=List.length ts1∧
 (List.length ts1≤9223372036854775807→
 ∀(x37:Int),
 x37=↑(List.length ts1)→
 ∀(x39:Bool),
 x39=(x34 != x37)→
 (x39=true→r=V.bool false)∧
 (x39=false→
 (∀(v43:V),List.Mem v43 cs0→V.ids v43=[])∧
 (∀(v45:V),List.Mem v45 ts1→V.ids v45=[])∧
 List.length cs0=List.length cs0∧
 List.length ts1=List.length ts1∧
 Int.ofNat 0=0∧
 ∃ns47,
 cs0=codeF 0 ns47∧
 ts1=atF 0 ns47∧
 p23.1=partF 0 0 ns47∧
 List.length ns47≤10∧
 (∀(n48:Nat),List.Mem n48 ns47→n48≤4)∧
 true=true∧
 (((true||false)=true∧List.length cs0=List.length cs0)∧(∀(v50:V),List.Mem v50 cs0→V.sz v50=2)∧some 2=some 2∧true=true∧∃b52,some 32=some b52∧List.length cs0*b52≤140737488355328∧List.length cs0≤9223372036854775807)∧
 (True→
 (IntKind.i64=IntKind.i64∧(Int.ofNat 2=0→False))∧
 (True→
 ∀(x56:Int),
 x56=Int.tmod how 2→
 ∀(x58:Bool),
 x58=(x56==0)→
 (x58=true→
 ((∀(v61:V),List.Mem v61 []→V.sz v61=3)∧0≤1000)∧
 (List.length cs0=List.length cs0∧
 26=26∧
 ((true||false)=true∧True)∧
 (∀(v63:V),List.Mem v63 [oE,o11]→V.sz v63=2)∧
 some 2=some 2∧
 true=true∧
 ∃b65,
 some 32=some b65∧
 (List.length cs0+List.length [oE,o11])*b65≤140737488355328∧
 List.length cs0+List.length [oE,o11]≤9223372036854775807)∧
 (True→
 List.length cs0+List.length [oE,o11]=List.length (cs0++[oE,o11])∧
 uB (cs0++[oE,o11])∧
 ∀(p67:List V×Int×Bool),
 p67=uK (cs0++[oE,o11])→
 ∀(x69:Bool),
 x69=!(Prod.snd p67).2→
 (x69=true→
 List.length p67.1≤9223372036854775807→
 ∀(x73:Int),
 x73=↑(List.length p67.1)→
 ∀(x75:Bool),
 x75=(x73==0)→
 (x75=true→
 List.length cs0=List.length cs0∧(List.length cs0≤9223372036854775807→∀(x79:Int),x79=↑(List.length cs0)→∀(x81:Bool),x81=((Prod.snd p67).1==x79)→(x81=true→r=V.bool true)∧(x81=false→r=V.bool false)))∧
 (x75=false→r=V.bool false))∧
 (x69=false→r=V.bool false)))∧
 (x58=false→
 List.length cs0=List.length cs0∧
 uB cs0∧
 ∀(p88:List V×Int×Bool),
 p88=uK cs0→
 ∀(x90:Bool),
 x90=!(Prod.snd p88).2→
 (x90=true→
 List.length p88.1≤9223372036854775807→
 ∀(x94:Int),
 x94=↑(List.length p88.1)→
 ∀(x96:Bool),
 x96=(x94==0)→
 (x96=true→
 List.length cs0=List.length cs0∧(List.length cs0≤9223372036854775807→∀(x100:Int),x100=↑(List.length cs0)→∀(x102:Bool),x102=((Prod.snd p88).1==x100)→(x102=true→r=V.bool true)∧(x102=false→r=V.bool false)))∧
 (x96=false→r=V.bool false))∧
 (x90=false→r=V.bool false)))))))))))):=by kernel_rfl
end GoL
