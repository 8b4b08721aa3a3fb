/- A part of the proof: a logic proved sound over the model; contracts; plain laws. -/
import Derived.Test.YteeaefidpkifbaaGE
import Derived.Test.YteeaefidpkifbaaG4D
set_option linter.all false
open Go Go.Proofs
namespace GoL
set_option maxRecDepth 100000
theorem nl51_0 (l:LK) (i:Int) (Nx Ex Rt:List V→List Blk→Prop):wC Try.prog sp51 167 zB (zN Try.f51) noLs 1 (zP Try.f51 0).2 1024 (List.zip [0,3] [.ptr 0 0 [],.int .i64 i]) (List.zip [0,1] [⟨none,false,lkV l 1⟩,⟨some 79,false,.agg l.es⟩]) (endK ends51_0 Nx Ex Rt)=(
 ∃l0,
 (lkV l 1)=
 (lkV l0 1)∧
 l.6=l0.6∧
 Int.ofNat 0≤2∧
 (2:Int)<↑(List.length l0.3)∧
 ∃t1 n2 ls9003,
 getV l0.3 2=V.agg [.int .i64 t1,.int .i64 n2,.list false ls9003]∧
 (List.length ls9003≤9223372036854775807→
 ∀(x5:Int),
 x5=↑(List.length ls9003)→
 ∀(x7:Bool),
 x7=decide (i<x5)→
 (x7=true→
 ∃l10,
 (lkV l 1)=
 (lkV l10 1)∧
 l.6=l10.6∧
 Int.ofNat 0≤2∧
 (2:Int)<↑(List.length l10.3)∧
 ∃t11 n13 ls7,
 getV l10.3 2=V.agg [.int .i64 t11,.int .i64 n13,.list false ls7]∧
 0≤i∧
 i<↑(List.length ls7)∧
 ∃n9014 n75 l16,
 getV ls7 i=V.agg [.int .i64 n9014,.int .i64 n75,.list false l16]∧
 1=List.length [V.int .i64 n75]∧
 ∃l17,
 (lkV l 1)=
 (lkV l17 1)∧
 l.6=l17.6∧
 LOk l17∧
 NLs [V.int .i64 n75]∧
 List.length [V.int .i64 n75]≤1000∧
 List.length l17.6≤5000∧
 ∃f18:Nat→Int×Int,
 (arrF 16 (FS.f (LK.s l)))=
 (arrF 16 f18)∧
 ∀(l'19:LK),
 l'19=edgeL l17 ⟨f18,(LK.s l).2,(LK.s l).3,(LK.s l).4,(LK.s l).5⟩ [V.int .i64 n75]→
 ∀(x21:Int),
 x21=IntKind.wrap .i64 (i+2)→
 (∀(v23:V),List.Mem v23 l'19.6→V.ids v23=[])∧
 Nx [V.ptr 0 0 [],V.int .i64 x21]
 [⟨none,false,(lkV l'19 1)⟩,
 ⟨some 79,false,V.agg l'19.6⟩])∧
 (x7=false→
 (∀(v26:V),List.Mem v26 l.6→V.ids v26=[])∧
 Ex []
 [⟨none,false,(lkV l 1)⟩,
 ⟨some 79,false,V.agg l.6⟩]))):=by kernel_rfl
theorem n51 (l:LK) (r:V) (ks:List Blk):wC Try.prog sp51 167 zB (zN Try.f51) ls51 0 (zC Try.f51) 1000 (zL [.ptr 0 0 []] 0) [(0,⟨none,false,lkV l 1⟩),(1,⟨some 79,false,.agg l.es⟩)] (finQ Try.prog [] none Try.f51.results.toList [0,1] fun v bs=>r=v∧ks=bs)=(
 ∀(x0:Bool),
 x0=(l.2==33)→
 (x0=true→
 ∃l3,
 (lkV l 1)=
 (lkV l3 1)∧
 l.6=l3.6∧
 Int.ofNat 0≤0∧
 (0:Int)<↑(List.length l3.3)∧
 ∃t4 n9005 ls8,
 getV l3.3 0=V.agg [.int .i64 t4,.int .i64 n9005,.list false ls8]∧
 ∃l7,
 (lkV l 1)=
 (lkV l7 1)∧
 l.6=l7.6∧
 LOk l7∧
 ArgL [V.agg [.int .i64 t4,.int .i64 n9005,.list false ls8]]∧
 List.length [V.agg [.int .i64 t4,.int .i64 n9005,.list false ls8]]≤100000∧
 ∀(q8:Int×Int),
 q8=srcLast l7 (0,0) [V.agg [.int .i64 t4,.int .i64 n9005,.list false ls8]]→
 ∀(l'10:LK),
 l'10=srcL l7 [V.agg [.int .i64 t4,.int .i64 n9005,.list false ls8]]→
 ∃l12,
 (lkV l'10 1)=
 (lkV l12 1)∧
 l'10.6=l12.6∧
 Int.ofNat 0≤1∧
 (1:Int)<↑(List.length l12.3)∧
 ∃t13 n9014 ls75,
 getV l12.3 1=V.agg [.int .i64 t13,.int .i64 n9014,.list false ls75]∧
 1=List.length [V.int .i64 n9014]∧
 ∃l16,
 (lkV l'10 1)=
 (lkV l16 1)∧
 l'10.6=l16.6∧
 LOk l16∧
 NLs [V.int .i64 n9014]∧
 List.length [V.int .i64 n9014]≤1000∧
 List.length l16.6≤5000∧
 ∃f17:Nat→Int×Int,
 (arrF 16 (FS.f (LK.s l'10)))=
 (arrF 16 f17)∧
 ∀(l'18:LK),
 l'18=edgeL l16 ⟨f17,(LK.s l'10).2,(LK.s l'10).3,(LK.s l'10).4,(LK.s l'10).5⟩ [V.int .i64 n9014]→
 (∀(v20:V),List.Mem v20 l'18.6→V.ids v20=[])∧
 Int.ofNat 1=1∧
 ∃l22,
 (lkV l'18 1)=
 (lkV l22 1)∧
 l'18.6=l22.6∧
 LOk l22∧
 List.length l22.6≤1100∧
 2<List.length l22.3∧
 (∃t23 n9024 ls9025,getV l22.3 2=V.agg [.int .i64 t23,.int .i64 n9024,.list false ls9025]∧ArgL ls9025∧List.length ls9025≤1000)∧
 ∀(l'26:LK),
 l'26=
 ⟨l22.1,l22.2,l22.3,l22.4,l22.5,l22.6++
 selRows l22.4
 (match getV l22.3 2 with
 |V.agg [head,head_1,.list c ls]=>ls
 |x=>[]),l22.7,l22.8⟩→
 r=V.tup []∧
 ks=
 [⟨none,false,(lkV l'26 1)⟩,
 ⟨some 79,false,V.agg l'26.6⟩])∧
 (x0=false→
 ∀(x29:Bool),
 x29=decide (l.2>28)→
 (x29=true→
 ∃l32,
 (lkV l 1)=
 (lkV l32 1)∧
 l.6=l32.6∧
 Int.ofNat 0≤1∧
 (1:Int)<↑(List.length l32.3)∧
 ∃t33 n47 ls48,
 getV l32.3 1=V.agg [.int .i64 t33,.int .i64 n47,.list false ls48]∧
 ∃l36,
 (lkV l 1)=
 (lkV l36 1)∧
 l.6=l36.6∧
 Int.ofNat 0≤2∧
 (2:Int)<↑(List.length l36.3)∧
 ∃t37 n51 ls52,
 getV l36.3 2=V.agg [.int .i64 t37,.int .i64 n51,.list false ls52]∧
 ∃l40,
 (lkV l 1)=
 (lkV l40 1)∧
 l.6=l40.6∧
 LOk l40∧
 ArgL [V.agg [.int .i64 t33,.int .i64 n47,.list false ls48],V.agg [.int .i64 t37,.int .i64 n51,.list false ls52]]∧
 List.length [V.agg [.int .i64 t33,.int .i64 n47,.list false ls48],V.agg [.int .i64 t37,.int .i64 n51,.list false ls52]]≤100000∧
 ∀(q41:Int×Int),
 q41=srcLast l40 (0,0) [V.agg [.int .i64 t33,.int .i64 n47,.list false ls48],V.agg [.int .i64 t37,.int .i64 n51,.list false ls52]]→
 ∀(l'43:LK),
 l'43=srcL l40 [V.agg [.int .i64 t33,.int .i64 n47,.list false ls48],V.agg [.int .i64 t37,.int .i64 n51,.list false ls52]]→
 ∃l45,
 (lkV l'43 1)=
 (lkV l45 1)∧
 l'43.6=l45.6∧
 Int.ofNat 0≤0∧
 (0:Int)<↑(List.length l45.3)∧
 ∃t46 n61 ls62,
 getV l45.3 0=V.agg [.int .i64 t46,.int .i64 n61,.list false ls62]∧
 1=List.length [V.int .i64 n61]∧
 ∃l49,
 (lkV l'43 1)=
 (lkV l49 1)∧
 l'43.6=l49.6∧
 LOk l49∧
 NLs [V.int .i64 n61]∧
 List.length [V.int .i64 n61]≤1000∧
 List.length l49.6≤5000∧
 ∃f50:Nat→Int×Int,
 (arrF 16 (FS.f (LK.s l'43)))=
 (arrF 16 f50)∧
 ∀(l'51:LK),
 l'51=edgeL l49 ⟨f50,(LK.s l'43).2,(LK.s l'43).3,(LK.s l'43).4,(LK.s l'43).5⟩ [V.int .i64 n61]→
 r=V.tup []∧
 ks=
 [⟨none,false,(lkV l'51 1)⟩,
 ⟨some 79,false,V.agg l'51.6⟩])∧
 (x29=false→
 ∃l54,
 (lkV l 1)=
 (lkV l54 1)∧
 l.6=l54.6∧
 Int.ofNat 0≤1∧
 (1:Int)<↑(List.length l54.3)∧
 ∃t55 n70 ls71,
 getV l54.3 1=V.agg [.int .i64 t55,.int .i64 n70,.list false ls71]∧
 ∃l58,
 (lkV l 1)=
 (lkV l58 1)∧
 l.6=l58.6∧
 LOk l58∧
 ∀(q59:Int×Int),
 q59=whatK l58 t55 n70→
 ∀(x61:Bool),
 x61=(l.2==28)→
 (x61=true→
 ∃l64,
 (lkV l 1)=
 (lkV l64 1)∧
 l.6=l64.6∧
 Int.ofNat 0≤2∧
 (2:Int)<↑(List.length l64.3)∧
 ∃t65 n82 ls83,
 getV l64.3 2=V.agg [.int .i64 t65,.int .i64 n82,.list false ls83]∧
 ∀(x68:Bool),
 x68=(q59.1==16)→
 ∃l70,
 (lkV l 1)=
 (lkV l70 1)∧
 l.6=l70.6∧
 ∀(l'71:LK),
 l'71=zW l70 x68→
 ∀(x73:Bool),
 x73=(q59.2 != n82)→
 (x73=true→
 ∃l76,
 (lkV l'71 1)=
 (lkV l76 1)∧
 l'71.6=l76.6∧
 Int.ofNat 0≤0∧
 (0:Int)<↑(List.length l76.3)∧
 ∃t77 n95 ls96,
 getV l76.3 0=V.agg [.int .i64 t77,.int .i64 n95,.list false ls96]∧
 1=List.length [V.int .i64 n95]∧
 ∃l80,
 (lkV l'71 1)=
 (lkV l80 1)∧
 l'71.6=l80.6∧
 LOk l80∧
 NLs [V.int .i64 n95]∧
 List.length [V.int .i64 n95]≤1000∧
 List.length l80.6≤5000∧
 ∃f81:Nat→Int×Int,
 (arrF 16 (FS.f (LK.s l'71)))=
 (arrF 16 f81)∧
 ∀(l'82:LK),
 l'82=edgeL l80 ⟨f81,(LK.s l'71).2,(LK.s l'71).3,(LK.s l'71).4,(LK.s l'71).5⟩ [V.int .i64 n95]→
 ∀(x84:Bool),
 x84=(q59.2==-1)→
 (x84=true→
 SOk
 (arrF 16 (FS.f (LK.o l'82)))
 (LK.o l'82).3 (LK.o l'82).5∧
 ∃f87:Nat→Int×Int,
 (arrF 16 (FS.f (LK.o l'82)))=
 (arrF 16 f87)∧
 ∀(g88:Nat→Int×Int),
 g88=refF f87 t55 n70 16 n82→
 ∀(zs90:List V),
 zs90=refZ (LK.o l'82).2 (LK.o l'82).3 t55 n70 16 n82→
 r=V.tup []∧
 ks=
 [⟨none,false,V.agg
 [(mdV l'82.m),.agg [.int .i64 l'82.2,.list false l'82.3],
 (fsV l'82.s),
 .agg
 [.agg
 (arrF 16 g88),
 .bool (LK.o l'82).2,.list false zs90,.int .i64 (LK.o l'82).4,.list false (LK.o l'82).5],
 .sl 1 (List.length l'82.6),.bool true,.bool l'82.8]⟩,
 ⟨some 79,false,V.agg l'82.6⟩])∧
 (x84=false→
 ∀(x93:Bool),
 x93=(q59.2==n82)→
 SOk
 (arrF 16 (FS.f (LK.o l'82)))
 (LK.o l'82).3 (LK.o l'82).5∧
 ∃f95:Nat→Int×Int,
 (arrF 16 (FS.f (LK.o l'82)))=
 (arrF 16 f95)∧
 ∀(g96:Nat→Int×Int),
 g96=refF f95 t55 n70 16 n82→
 ∀(zs98:List V),
 zs98=refZ (LK.o l'82).2 (LK.o l'82).3 t55 n70 16 n82→
 r=V.tup []∧
 ks=
 [⟨none,false,V.agg
 [(mdV l'82.m),.agg [.int .i64 l'82.2,.list false l'82.3],
 (fsV l'82.s),
 .agg
 [.agg
 (arrF 16 g96),
 .bool (LK.o l'82).2,.list false zs98,.int .i64 (LK.o l'82).4,.list false (LK.o l'82).5],
 .sl 1 (List.length l'82.6),.bool x93,.bool l'82.8]⟩,
 ⟨some 79,false,V.agg l'82.6⟩]))∧
 (x73=false→
 ∀(x101:Bool),
 x101=(q59.2==-1)→
 (x101=true→
 SOk
 (arrF 16 (FS.f (LK.o l'71)))
 (LK.o l'71).3 (LK.o l'71).5∧
 ∃f104:Nat→Int×Int,
 (arrF 16 (FS.f (LK.o l'71)))=
 (arrF 16 f104)∧
 ∀(g105:Nat→Int×Int),
 g105=refF f104 t55 n70 16 n82→
 ∀(zs107:List V),
 zs107=refZ (LK.o l'71).2 (LK.o l'71).3 t55 n70 16 n82→
 r=V.tup []∧
 ks=
 [⟨none,false,V.agg
 [(mdV l'71.m),.agg [.int .i64 l'71.2,.list false l'71.3],
 (fsV l'71.s),
 .agg
 [.agg
 (arrF 16 g105),
 .bool (LK.o l'71).2,.list false zs107,.int .i64 (LK.o l'71).4,.list false (LK.o l'71).5],
 .sl 1 (List.length l'71.6),.bool true,.bool l'71.8]⟩,
 ⟨some 79,false,V.agg l'71.6⟩])∧
 (x101=false→
 ∀(x110:Bool),
 x110=(q59.2==n82)→
 SOk
 (arrF 16 (FS.f (LK.o l'71)))
 (LK.o l'71).3 (LK.o l'71).5∧
 ∃f112:Nat→Int×Int,
 (arrF 16 (FS.f (LK.o l'71)))=
 (arrF 16 f112)∧
 ∀(g113:Nat→Int×Int),
 g113=refF f112 t55 n70 16 n82→
 ∀(zs115:List V),
 zs115=refZ (LK.o l'71).2 (LK.o l'71).3 t55 n70 16 n82→
 r=V.tup []∧
 ks=
 [⟨none,false,V.agg
 [(mdV l'71.m),.agg [.int .i64 l'71.2,.list false l'71.3],
 (fsV l'71.s),
 .agg
 [.agg
 (arrF 16 g113),
 .bool (LK.o l'71).2,.list false zs115,.int .i64 (LK.o l'71).4,.list false (LK.o l'71).5],
 .sl 1 (List.length l'71.6),.bool x110,.bool l'71.8]⟩,
 ⟨some 79,false,V.agg l'71.6⟩])))∧
 (x61=false→
 ∃l118,
 (lkV l 1)=
 (lkV l118 1)∧
 l.6=l118.6∧
 LOk l118∧
 ArgL [V.agg [.int .i64 t55,.int .i64 n70,.list false ls71]]∧
 List.length [V.agg [.int .i64 t55,.int .i64 n70,.list false ls71]]≤100000∧
 ∀(q119:Int×Int),
 q119=srcLast l118 (0,0) [V.agg [.int .i64 t55,.int .i64 n70,.list false ls71]]→
 ∀(l'121:LK),
 l'121=srcL l118 [V.agg [.int .i64 t55,.int .i64 n70,.list false ls71]]→
 ∀(x123:Int),
 x123=IntKind.wrap .i64 (l.2-21)→
 0≤x123∧
 (True→
 ∀(x126:Int),
 x126=IntKind.wrap .i64 (1*2 ^ min (Int.toNat x123) 64)→
 ∀(x128:Bool),
 x128=((meet (Prod.fst q59) (Prod.snd q59) (notI x126)).1 != 0)→
 (x128=true→
 SOk
 (arrF 16 (FS.f (LK.s l'121)))
 (LK.s l'121).3 (LK.s l'121).5∧
 ∃f131:Nat→Int×Int,
 (arrF 16 (FS.f (LK.s l'121)))=
 (arrF 16 f131)∧
 ∀(g132:Nat→Int×Int),
 g132=refF f131 t55 n70 (meet (Prod.fst q59) (Prod.snd q59) (notI x126)).1 (meet (Prod.fst q59) (Prod.snd q59) (notI x126)).2→
 ∀(zs134:List V),
 zs134=refZ (LK.s l'121).2 (LK.s l'121).3 t55 n70 (meet (Prod.fst q59) (Prod.snd q59) (notI x126)).1 (meet (Prod.fst q59) (Prod.snd q59) (notI x126)).2→
 ∃l136,
 (lkV l'121 1)=
 (lkV l136 1)∧
 l'121.6=l136.6∧
 Int.ofNat 0≤0∧
 (0:Int)<↑(List.length l136.3)∧
 ∃t137 n9138 ls9139,
 getV l136.3 0=V.agg [.int .i64 t137,.int .i64 n9138,.list false ls9139]∧
 1=List.length [V.int .i64 n9138]∧
 ∃l140,
 (lkV l'121 1)=
 (lkV l140 1)∧
 l'121.6=l140.6∧
 LOk l140∧
 NLs [V.int .i64 n9138]∧
 List.length [V.int .i64 n9138]≤1000∧
 List.length l140.6≤5000∧
 ∃f141:Nat→Int×Int,
 (arrF 16 g132)=
 (arrF 16 f141)∧
 ∀(l'142:LK),
 l'142=edgeL l140 ⟨f141,(LK.s l'121).2,zs134,(LK.s l'121).4,(LK.s l'121).5⟩ [V.int .i64 n9138]→
 ∀(x144:Bool),
 x144=((meet (Prod.fst q59) (Prod.snd q59) x126).1 != 0)→
 SOk
 (arrF 16 (FS.f (LK.o l'142)))
 (LK.o l'142).3 (LK.o l'142).5∧
 ∃f146:Nat→Int×Int,
 (arrF 16 (FS.f (LK.o l'142)))=
 (arrF 16 f146)∧
 ∀(g147:Nat→Int×Int),
 g147=refF f146 t55 n70 (meet (Prod.fst q59) (Prod.snd q59) x126).1 (meet (Prod.fst q59) (Prod.snd q59) x126).2→
 ∀(zs149:List V),
 zs149=refZ (LK.o l'142).2 (LK.o l'142).3 t55 n70 (meet (Prod.fst q59) (Prod.snd q59) x126).1 (meet (Prod.fst q59) (Prod.snd q59) x126).2→
 r=V.tup []∧
 ks=
 [⟨none,false,V.agg
 [(mdV l'142.m),
 .agg [.int .i64 l'142.2,.list false l'142.3],
 (fsV l'142.s),
 .agg
 [.agg
 (arrF 16 g147),
 .bool (LK.o l'142).2,.list false zs149,.int .i64 (LK.o l'142).4,.list false (LK.o l'142).5],
 .sl 1 (List.length l'142.6),.bool x144,.bool l'142.8]⟩,
 ⟨some 79,false,V.agg l'142.6⟩])∧
 (x128=false→
 ∀(x152:Bool),
 x152=((meet (Prod.fst q59) (Prod.snd q59) x126).1 != 0)→
 SOk
 (arrF 16 (FS.f (LK.o l'121)))
 (LK.o l'121).3 (LK.o l'121).5∧
 ∃f154:Nat→Int×Int,
 (arrF 16 (FS.f (LK.o l'121)))=
 (arrF 16 f154)∧
 ∀(g155:Nat→Int×Int),
 g155=refF f154 t55 n70 (meet (Prod.fst q59) (Prod.snd q59) x126).1 (meet (Prod.fst q59) (Prod.snd q59) x126).2→
 ∀(zs157:List V),
 zs157=refZ (LK.o l'121).2 (LK.o l'121).3 t55 n70 (meet (Prod.fst q59) (Prod.snd q59) x126).1 (meet (Prod.fst q59) (Prod.snd q59) x126).2→
 r=V.tup []∧
 ks=
 [⟨none,false,V.agg
 [(mdV l'121.m),.agg [.int .i64 l'121.2,.list false l'121.3],
 (fsV l'121.s),
 .agg
 [.agg
 (arrF 16 g155),
 .bool (LK.o l'121).2,.list false zs157,.int .i64 (LK.o l'121).4,.list false (LK.o l'121).5],
 .sl 1 (List.length l'121.6),.bool x152,.bool l'121.8]⟩,
 ⟨some 79,false,V.agg l'121.6⟩])))))):=by kernel_rfl
theorem nl54_0 (l:LK) (y:Int) (ts:List V) (n i:Int) (Nx Ex Rt:List V→List Blk→Prop):wC Try.prog sp54 166 zB (zN Try.f54) noLs 0 (zP Try.f54 0).2 1045 (List.zip [0,2,45,46,47] [.ptr 0 0 [],.int .i64 y,.list false ts,.int .i64 n,.int .i64 i]) (List.zip [0,1,1027] [⟨none,false,lkY l 1 1027⟩,⟨some 79,false,.agg l.es⟩,⟨some 52,false,.agg l.o.ys⟩]) (endK ends54_0 Nx Ex Rt)=(
 ∀(x0:Bool),
 x0=decide (i<n)→
 (x0=true→
 0≤i∧
 i<↑(List.length ts)∧
 ∃n9003,
 getV ts i=V.int .i64 n9003∧
 ∀(x4:Bool),
 x4=decide (y<n9003)→
 ∃l6,
 (lkY l 1 1027)=
 (lkY l6 1 1027)∧
 l.6=l6.6∧
 (LK.o l).3=(LK.o l6).3∧
 ∀(l'7:LK),
 l'7=zW l6 x4→
 ∀(x9:Int),
 x9=IntKind.wrap .i64 (i+1)→
 (∀(v11:V),List.Mem v11 l'7.6→V.ids v11=[])∧
 (∀(v13:V),List.Mem v13 (LK.o l'7).3→V.ids v13=[])∧
 Nx [V.ptr 0 0 [],V.int .i64 y,V.list false ts,V.int .i64 n,V.int .i64 x9]
 [⟨none,false,(lkY l'7 1 1027)⟩,
 ⟨some 79,false,V.agg l'7.6⟩,⟨some 52,false,V.agg (LK.o l'7).3⟩])∧
 (x0=false→
 (∀(v16:V),List.Mem v16 l.6→V.ids v16=[])∧
 (∀(v18:V),List.Mem v18 (LK.o l).3→V.ids v18=[])∧
 Ex [V.ptr 0 0 [],V.int .i64 y]
 [⟨none,false,(lkY l 1 1027)⟩,
 ⟨some 79,false,V.agg l.6⟩,⟨some 52,false,V.agg (LK.o l).3⟩])):=by kernel_rfl
theorem n54 (l:LK) (r:V) (ks:List Blk):wC Try.prog sp54 166 (hintOf [(9010,52),(12008,52)]) (zN Try.f54) ls54 0 (zC Try.f54) 1000 (zL [.ptr 0 0 []] 0) [(0,⟨none,false,lkV l 1⟩),(1,⟨some 79,false,.agg l.es⟩)] (finQ Try.prog [(0,[3])] none Try.f54.results.toList [0,1] fun v bs=>r=v∧ks=bs)=(
 ∃l0,
 (lkV l 1)=
 (lkV l0 1)∧
 l.6=l0.6∧
 Int.ofNat 0≤0∧
 (0:Int)<↑(List.length l0.3)∧
 ∃t1 n2 ls9003,
 getV l0.3 0=V.agg [.int .i64 t1,.int .i64 n2,.list false ls9003]∧
 ((LK.s l).2=true→
 List.length (LK.s l).3≤9223372036854775807→
 ∀(x6:Int),
 x6=↑(List.length (LK.s l).3)→
 ∀(x8:Bool),
 x8=decide (n2<x6)→
 ∃l10,
 (lkV l 1)=
 (lkV l10 1)∧
 l.6=l10.6∧
 ∀(l'11:LK),
 l'11=zW l10 x8→
 ∀(x13:Bool),
 x13=!l'11.8→
 (x13=true→
 r=V.tup []∧
 ks=
 [⟨none,false,(lkV l'11 1)⟩,
 ⟨some 79,false,V.agg l'11.6⟩])∧
 (x13=false→
 KLs (LK.s l'11).3∧
 List.length (LK.s l'11).3≤1000∧
 (LK.s l'11).3≠[]∧
 ∀(zs17:List V),
 zs17=(LK.s l'11).3→
 ∀(x19:Bool),
 x19=(l'11.2==45)→
 (x19=true→
 List.length (LK.s l'11).5≤9223372036854775807→
 ∀(x23:Int),
 x23=↑(List.length (LK.s l'11).5)→
 (∀(v25:V),List.Mem v25 l'11.6→V.ids v25=[])∧
 (∀(v27:V),List.Mem v27 zs17→V.ids v27=[])∧
 Int.ofNat 0=0∧
 x23=↑(List.length (LK.s l'11).5)∧
 NLs (LK.s l'11).5∧
 List.length (LK.s l'11).5≤1000∧
 ∃l29,
 V.agg
 [(mdV l'11.m),.agg [.int .i64 l'11.2,.list false l'11.3],
 (fsV l'11.s),
 .agg
 [.agg
 (arrF 16 (FS.f (LK.o l'11))),
 .bool (LK.o l'11).2,.sl 1027 (List.length zs17),.int .i64 (LK.o l'11).4,.list false (LK.o l'11).5],
 .sl 1 (List.length l'11.6),.bool l'11.7,.bool l'11.8]=
 (lkY l29 1 1027)∧
 l'11.6=l29.6∧
 zs17=(LK.o l29).3∧
 (∀(v30:V),List.Mem v30 l29.6→V.ids v30=[])∧
 KLs (LK.o l29).3∧
 ∀(l'32:LK),
 l'32=⟨l29.1,l29.2,l29.3,l29.4,l29.5,l29.6,l29.7,if l29.8=true then tagsOk n2 (LK.s l'11).5 else false⟩→
 ∃l34,
 (lkY l'32 1 1027)=
 (lkY l34 1 1027)∧
 l'32.6=l34.6∧
 (LK.o l'32).3=(LK.o l34).3∧
 Int.ofNat 0≤1∧
 (1:Int)<↑(List.length l34.3)∧
 ∃t35 n49 ls50,
 getV l34.3 1=V.agg [.int .i64 t35,.int .i64 n49,.list false ls50]∧
 List.length (LK.o l'32).3=List.length (LK.o l'32).3∧
 0≤n2∧
 n2<↑(List.length (LK.o l'32).3)∧
 some 2=some 2∧
 List.length (LK.o l'32).3=List.length (LK.o l'32).3∧
 [Int.toNat n2]≠[]∧
 offQ (V.agg (LK.o l'32).3) [Int.toNat n2]=Int.toNat n2*2∧
 (∃u38,subQ (V.agg (LK.o l'32).3) [Int.toNat n2]=some u38∧V.sz (V.agg [.int .i64 256,.int .i64 n49])=V.sz u38∧V.sz (V.agg [.int .i64 256,.int .i64 n49])=V.sz u38)∧
 ∃rows'39,
 V.agg rows'39=updQ (V.agg [.int .i64 256,.int .i64 n49]) (V.agg (LK.o l'32).3) [Int.toNat n2]∧
 (1=List.length [V.int .i64 n2]∧
 3=3∧
 ((true||false)=true∧True)∧
 (∀(v40:V),List.Mem v40 (LK.s l'32).5→V.sz v40=1)∧some 1=some 1∧true=true∧∃b55,some 8=some b55∧(1+List.length (LK.s l'32).5)*b55≤140737488355328∧1+List.length (LK.s l'32).5≤9223372036854775807)∧
 (True→
 List.length (LK.o l'32).3=List.length rows'39∧
 List.length [V.int .i64 n2]+List.length (LK.s l'32).5=List.length (V.int .i64 n2::(LK.s l'32).5)∧
 r=V.tup []∧
 ks=
 [⟨none,false,V.agg
 [(mdV l'32.m),.agg [.int .i64 l'32.2,.list false l'32.3],
 (fsV l'32.s),
 .agg
 [.agg
 (arrF 16 (FS.f (LK.o l'32))),
 .bool (LK.o l'32).2,.list false rows'39,.int .i64 (LK.o l'32).4,.list false (V.int .i64 n2::(LK.s l'32).5)],
 .sl 1 (List.length l'32.6),.bool l'32.7,.bool l'32.8]⟩,
 ⟨some 79,false,V.agg l'32.6⟩]))∧
 (x19=false→
 List.length (LK.s l'11).5≤9223372036854775807→
 ∀(x46:Int),
 x46=↑(List.length (LK.s l'11).5)→
 ∀(x48:Bool),
 x48=decide (x46>0)→
 (x48=true→
 Int.ofNat 0≤0∧
 (0:Int)<↑(List.length (LK.s l'11).5)∧
 ∃n92,
 getV (LK.s l'11).5 0=V.int .i64 n92∧
 ∀(x52:Bool),
 x52=(n92==n2)→
 ∃l54,
 V.agg
 [(mdV l'11.m),.agg [.int .i64 l'11.2,.list false l'11.3],
 (fsV l'11.s),
 .agg
 [.agg
 (arrF 16 (FS.f (LK.o l'11))),
 .bool (LK.o l'11).2,.sl 1027 (List.length zs17),.int .i64 (LK.o l'11).4,.list false (LK.o l'11).5],
 .sl 1 (List.length l'11.6),.bool l'11.7,.bool l'11.8]=
 (lkY l54 1 1027)∧
 l'11.6=l54.6∧
 zs17=(LK.o l54).3∧
 ∀(l'55:LK),
 l'55=zW l54 x52→
 ∀(x57:Bool),
 x57=!l'55.8→
 (x57=true→
 List.length (LK.o l'55).3=List.length (LK.o l'55).3∧
 r=V.tup []∧
 ks=
 [⟨none,false,(lkV l'55 1)⟩,
 ⟨some 79,false,V.agg l'55.6⟩])∧
 (x57=false→
 List.length (LK.o l'55).3=List.length (LK.o l'55).3∧
 0≤n2∧
 n2<↑(List.length (LK.o l'55).3)∧
 some 2=some 2∧
 List.length (LK.o l'55).3=List.length (LK.o l'55).3∧
 [Int.toNat n2]≠[]∧
 offQ (V.agg (LK.o l'55).3) [Int.toNat n2]=Int.toNat n2*2∧
 (∃u61,subQ (V.agg (LK.o l'55).3) [Int.toNat n2]=some u61∧V.sz (V.agg [.int .i64 4,.int .i64 (-1)])=V.sz u61∧V.sz (V.agg [.int .i64 4,.int .i64 (-1)])=V.sz u61)∧
 ∃rows'62,
 V.agg rows'62=updQ (V.agg [.int .i64 4,.int .i64 (-1)]) (V.agg (LK.o l'55).3) [Int.toNat n2]∧
 (True∧
 false=false∧
 True∧
 True∧
 True∧
 ((none:Option V)≠none→(none:Option V)≠none∧Int.ofNat 0=Int.ofNat 0)∧
 0≤Int.ofNat 1∧Int.ofNat 1≤Int.ofNat (List.length (LK.s l'55).5)∧Int.ofNat (List.length (LK.s l'55).5)≤↑(List.length (LK.s l'55).5)∧some 1=some 1∧∀(v64:V),List.Mem v64 (LK.s l'55).5→V.sz v64=1)∧
 (True→
 ∀(x67:List V),
 x67=List.take (Int.toNat (Int.ofNat (List.length (LK.s l'55).5)-Int.ofNat 1)) (List.drop (Int.toNat (Int.ofNat 1)) (LK.s l'55).5)→
 NLs x67∧
 List.length x67≤1000∧
 ∀(zs69:List V),
 zs69=x67→
 ∀(x71:Bool),
 x71=(l'55.2==47)→
 (x71=true→
 Int.ofNat 0≤0∧
 (0:Int)<↑16∧
 ∀(x74:Bool),
 x74=((meet (Prod.fst (FS.f (LK.s l'55) 0)) (Prod.snd (FS.f (LK.s l'55) 0)) (-1)).1==2)→
 (x74=true→
 Int.ofNat 0≤1∧
 (1:Int)<↑16∧
 (plain (FS.f (LK.s l'55) 1).1 (FS.f (LK.s l'55) 1).2=true→
 Int.ofNat 0≤2∧
 (2:Int)<↑16∧
 ∃l78,
 V.agg
 [(mdV l'55.m),
 .agg [.int .i64 l'55.2,.list false l'55.3],
 (fsV l'55.s),
 .agg
 [.agg
 (arrF 16 (FS.f (LK.o l'55))),
 .bool (LK.o l'55).2,.sl 1027 (List.length (LK.o l'55).3),.int .i64 (LK.o l'55).4,.list false zs69],
 .sl 1 (List.length l'55.6),.bool l'55.7,.bool l'55.8]=
 (lkY l78 1 1027)∧
 l'55.6=l78.6∧
 rows'62=(LK.o l78).3∧
 ∀(l'79:LK),
 l'79=zW l78 (plain (FS.f (LK.s l'55) 2).1 (FS.f (LK.s l'55) 2).2)→
 List.length (LK.o l'79).3=List.length (LK.o l'79).3∧
 ∃f81:Nat→Int×Int,
 (arrF 16 (FS.f (LK.o l'79)))=
 (arrF 16 f81)∧
 SOk
 (arrF 16 (FS.f (LK.o l'79)))
 (LK.o l'79).3 (LK.o l'79).5∧
 ∀(g82:Nat→Int×Int),
 g82=cutF f81 (if 0<if 16<3 then 16 else 3 then if 16<3 then 16 else 3 else 0)→
 r=V.tup []∧
 ks=
 [⟨none,false,V.agg
 [(mdV l'79.m),
 .agg [.int .i64 l'79.2,.list false l'79.3],
 (fsV l'79.s),
 .agg
 [.agg
 (arrF 16 g82),
 .bool (LK.o l'79).2,.list false (LK.o l'79).3,.int .i64 0,.list false (LK.o l'79).5],
 .sl 1 (List.length l'79.6),.bool l'79.7,.bool l'79.8]⟩,
 ⟨some 79,false,V.agg l'79.6⟩])∧
 (plain (FS.f (LK.s l'55) 1).1 (FS.f (LK.s l'55) 1).2=false→
 ∃l85,
 V.agg
 [(mdV l'55.m),
 .agg [.int .i64 l'55.2,.list false l'55.3],
 (fsV l'55.s),
 .agg
 [.agg
 (arrF 16 (FS.f (LK.o l'55))),
 .bool (LK.o l'55).2,.sl 1027 (List.length (LK.o l'55).3),.int .i64 (LK.o l'55).4,.list false zs69],
 .sl 1 (List.length l'55.6),.bool l'55.7,.bool l'55.8]=
 (lkY l85 1 1027)∧
 l'55.6=l85.6∧
 rows'62=(LK.o l85).3∧
 ∀(l'86:LK),
 l'86=zW l85 false→
 List.length (LK.o l'86).3=List.length (LK.o l'86).3∧
 ∃f88:Nat→Int×Int,
 (arrF 16 (FS.f (LK.o l'86)))=
 (arrF 16 f88)∧
 SOk
 (arrF 16 (FS.f (LK.o l'86)))
 (LK.o l'86).3 (LK.o l'86).5∧
 ∀(g89:Nat→Int×Int),
 g89=cutF f88 (if 0<if 16<3 then 16 else 3 then if 16<3 then 16 else 3 else 0)→
 r=V.tup []∧
 ks=
 [⟨none,false,V.agg
 [(mdV l'86.m),
 .agg [.int .i64 l'86.2,.list false l'86.3],
 (fsV l'86.s),
 .agg
 [.agg
 (arrF 16 g89),
 .bool (LK.o l'86).2,.list false (LK.o l'86).3,.int .i64 0,.list false (LK.o l'86).5],
 .sl 1 (List.length l'86.6),.bool l'86.7,.bool l'86.8]⟩,
 ⟨some 79,false,V.agg l'86.6⟩]))∧
 (x74=false→
 ∃l92,
 V.agg
 [(mdV l'55.m),
 .agg [.int .i64 l'55.2,.list false l'55.3],
 (fsV l'55.s),
 .agg
 [.agg
 (arrF 16 (FS.f (LK.o l'55))),
 .bool (LK.o l'55).2,.sl 1027 (List.length (LK.o l'55).3),.int .i64 (LK.o l'55).4,.list false zs69],
 .sl 1 (List.length l'55.6),.bool l'55.7,.bool l'55.8]=
 (lkY l92 1 1027)∧
 l'55.6=l92.6∧
 rows'62=(LK.o l92).3∧
 ∀(l'93:LK),
 l'93=zW l92 false→
 List.length (LK.o l'93).3=List.length (LK.o l'93).3∧
 ∃f95:Nat→Int×Int,
 (arrF 16 (FS.f (LK.o l'93)))=
 (arrF 16 f95)∧
 SOk
 (arrF 16 (FS.f (LK.o l'93)))
 (LK.o l'93).3 (LK.o l'93).5∧
 ∀(g96:Nat→Int×Int),
 g96=cutF f95 (if 0<if 16<3 then 16 else 3 then if 16<3 then 16 else 3 else 0)→
 r=V.tup []∧
 ks=
 [⟨none,false,V.agg
 [(mdV l'93.m),
 .agg [.int .i64 l'93.2,.list false l'93.3],
 (fsV l'93.s),
 .agg
 [.agg
 (arrF 16 g96),
 .bool (LK.o l'93).2,.list false (LK.o l'93).3,.int .i64 0,.list false (LK.o l'93).5],
 .sl 1 (List.length l'93.6),.bool l'93.7,.bool l'93.8]⟩,
 ⟨some 79,false,V.agg l'93.6⟩]))∧
 (x71=false→
 List.length (LK.o l'55).3=List.length rows'62∧
 r=V.tup []∧
 ks=
 [⟨none,false,V.agg
 [(mdV l'55.m),.agg [.int .i64 l'55.2,.list false l'55.3],
 (fsV l'55.s),
 .agg
 [.agg
 (arrF 16 (FS.f (LK.o l'55))),
 .bool (LK.o l'55).2,.list false rows'62,.int .i64 (LK.o l'55).4,.list false zs69],
 .sl 1 (List.length l'55.6),.bool l'55.7,.bool l'55.8]⟩,
 ⟨some 79,false,V.agg l'55.6⟩]))))∧
 (x48=false→
 ∃l100,
 V.agg
 [(mdV l'11.m),.agg [.int .i64 l'11.2,.list false l'11.3],
 (fsV l'11.s),
 .agg
 [.agg
 (arrF 16 (FS.f (LK.o l'11))),
 .bool (LK.o l'11).2,.sl 1027 (List.length zs17),.int .i64 (LK.o l'11).4,.list false (LK.o l'11).5],
 .sl 1 (List.length l'11.6),.bool l'11.7,.bool l'11.8]=
 (lkY l100 1 1027)∧
 l'11.6=l100.6∧
 zs17=(LK.o l100).3∧
 ∀(l'101:LK),
 l'101=zW l100 false→
 ∀(x103:Bool),
 x103=!l'101.8→
 (x103=true→
 List.length (LK.o l'101).3=List.length (LK.o l'101).3∧
 r=V.tup []∧
 ks=
 [⟨none,false,(lkV l'101 1)⟩,
 ⟨some 79,false,V.agg l'101.6⟩])∧
 (x103=false→
 List.length (LK.o l'101).3=List.length (LK.o l'101).3∧
 0≤n2∧
 n2<↑(List.length (LK.o l'101).3)∧
 some 2=some 2∧
 List.length (LK.o l'101).3=List.length (LK.o l'101).3∧
 [Int.toNat n2]≠[]∧
 offQ (V.agg (LK.o l'101).3) [Int.toNat n2]=Int.toNat n2*2∧
 (∃u107,subQ (V.agg (LK.o l'101).3) [Int.toNat n2]=some u107∧V.sz (V.agg [.int .i64 4,.int .i64 (-1)])=V.sz u107∧V.sz (V.agg [.int .i64 4,.int .i64 (-1)])=V.sz u107)∧
 ∃rows'108,
 V.agg rows'108=updQ (V.agg [.int .i64 4,.int .i64 (-1)]) (V.agg (LK.o l'101).3) [Int.toNat n2]∧
 (True∧
 false=false∧
 True∧
 True∧
 True∧
 ((none:Option V)≠none→(none:Option V)≠none∧Int.ofNat 0=Int.ofNat 0)∧
 0≤Int.ofNat 1∧Int.ofNat 1≤Int.ofNat (List.length (LK.s l'101).5)∧Int.ofNat (List.length (LK.s l'101).5)≤↑(List.length (LK.s l'101).5)∧some 1=some 1∧∀(v110:V),List.Mem v110 (LK.s l'101).5→V.sz v110=1)∧
 (True→
 ∀(x113:List V),
 x113=List.take (Int.toNat (Int.ofNat (List.length (LK.s l'101).5)-Int.ofNat 1)) (List.drop (Int.toNat (Int.ofNat 1)) (LK.s l'101).5)→
 NLs x113∧
 List.length x113≤1000∧
 ∀(zs115:List V),
 zs115=x113→
 ∀(x117:Bool),
 x117=(l'101.2==47)→
 (x117=true→
 Int.ofNat 0≤0∧
 (0:Int)<↑16∧
 ∀(x120:Bool),
 x120=((meet (Prod.fst (FS.f (LK.s l'101) 0)) (Prod.snd (FS.f (LK.s l'101) 0)) (-1)).1==2)→
 (x120=true→
 Int.ofNat 0≤1∧
 (1:Int)<↑16∧
 (plain (FS.f (LK.s l'101) 1).1 (FS.f (LK.s l'101) 1).2=true→
 Int.ofNat 0≤2∧
 (2:Int)<↑16∧
 ∃l124,
 V.agg
 [(mdV l'101.m),
 .agg [.int .i64 l'101.2,.list false l'101.3],
 (fsV l'101.s),
 .agg
 [.agg
 (arrF 16 (FS.f (LK.o l'101))),
 .bool (LK.o l'101).2,.sl 1027 (List.length (LK.o l'101).3),.int .i64 (LK.o l'101).4,.list false zs115],
 .sl 1 (List.length l'101.6),.bool l'101.7,.bool l'101.8]=
 (lkY l124 1 1027)∧
 l'101.6=l124.6∧
 rows'108=(LK.o l124).3∧
 ∀(l'125:LK),
 l'125=zW l124 (plain (FS.f (LK.s l'101) 2).1 (FS.f (LK.s l'101) 2).2)→
 List.length (LK.o l'125).3=List.length (LK.o l'125).3∧
 ∃f127:Nat→Int×Int,
 (arrF 16 (FS.f (LK.o l'125)))=
 (arrF 16 f127)∧
 SOk
 (arrF 16 (FS.f (LK.o l'125)))
 (LK.o l'125).3 (LK.o l'125).5∧
 ∀(g128:Nat→Int×Int),
 g128=cutF f127 (if 0<if 16<3 then 16 else 3 then if 16<3 then 16 else 3 else 0)→
 r=V.tup []∧
 ks=
 [⟨none,false,V.agg
 [(mdV l'125.m),
 .agg [.int .i64 l'125.2,.list false l'125.3],
 (fsV l'125.s),
 .agg
 [.agg
 (arrF 16 g128),
 .bool (LK.o l'125).2,.list false (LK.o l'125).3,.int .i64 0,.list false (LK.o l'125).5],
 .sl 1 (List.length l'125.6),.bool l'125.7,.bool l'125.8]⟩,
 ⟨some 79,false,V.agg l'125.6⟩])∧
 (plain (FS.f (LK.s l'101) 1).1 (FS.f (LK.s l'101) 1).2=false→
 ∃l131,
 V.agg
 [(mdV l'101.m),
 .agg [.int .i64 l'101.2,.list false l'101.3],
 (fsV l'101.s),
 .agg
 [.agg
 (arrF 16 (FS.f (LK.o l'101))),
 .bool (LK.o l'101).2,.sl 1027 (List.length (LK.o l'101).3),.int .i64 (LK.o l'101).4,.list false zs115],
 .sl 1 (List.length l'101.6),.bool l'101.7,.bool l'101.8]=
 (lkY l131 1 1027)∧
 l'101.6=l131.6∧
 rows'108=(LK.o l131).3∧
 ∀(l'132:LK),
 l'132=zW l131 false→
 List.length (LK.o l'132).3=List.length (LK.o l'132).3∧
 ∃f134:Nat→Int×Int,
 (arrF 16 (FS.f (LK.o l'132)))=
 (arrF 16 f134)∧
 SOk
 (arrF 16 (FS.f (LK.o l'132)))
 (LK.o l'132).3 (LK.o l'132).5∧
 ∀(g135:Nat→Int×Int),
 g135=cutF f134 (if 0<if 16<3 then 16 else 3 then if 16<3 then 16 else 3 else 0)→
 r=V.tup []∧
 ks=
 [⟨none,false,V.agg
 [(mdV l'132.m),
 .agg [.int .i64 l'132.2,.list false l'132.3],
 (fsV l'132.s),
 .agg
 [.agg
 (arrF 16 g135),
 .bool (LK.o l'132).2,.list false (LK.o l'132).3,.int .i64 0,.list false (LK.o l'132).5],
 .sl 1 (List.length l'132.6),.bool l'132.7,.bool l'132.8]⟩,
 ⟨some 79,false,V.agg l'132.6⟩]))∧
 (x120=false→
 ∃l138,
 V.agg
 [(mdV l'101.m),
 .agg [.int .i64 l'101.2,.list false l'101.3],
 (fsV l'101.s),
 .agg
 [.agg
 (arrF 16 (FS.f (LK.o l'101))),
 .bool (LK.o l'101).2,.sl 1027 (List.length (LK.o l'101).3),.int .i64 (LK.o l'101).4,.list false zs115],
 .sl 1 (List.length l'101.6),.bool l'101.7,.bool l'101.8]=
 (lkY l138 1 1027)∧
 l'101.6=l138.6∧
 rows'108=(LK.o l138).3∧
 ∀(l'139:LK),
 l'139=zW l138 false→
 List.length (LK.o l'139).3=List.length (LK.o l'139).3∧
 ∃f141:Nat→Int×Int,
 (arrF 16 (FS.f (LK.o l'139)))=
 (arrF 16 f141)∧
 SOk
 (arrF 16 (FS.f (LK.o l'139)))
 (LK.o l'139).3 (LK.o l'139).5∧
 ∀(g142:Nat→Int×Int),
 g142=cutF f141 (if 0<if 16<3 then 16 else 3 then if 16<3 then 16 else 3 else 0)→
 r=V.tup []∧
 ks=
 [⟨none,false,V.agg
 [(mdV l'139.m),
 .agg [.int .i64 l'139.2,.list false l'139.3],
 (fsV l'139.s),
 .agg
 [.agg
 (arrF 16 g142),
 .bool (LK.o l'139).2,.list false (LK.o l'139).3,.int .i64 0,.list false (LK.o l'139).5],
 .sl 1 (List.length l'139.6),.bool l'139.7,.bool l'139.8]⟩,
 ⟨some 79,false,V.agg l'139.6⟩]))∧
 (x117=false→
 List.length (LK.o l'101).3=List.length rows'108∧
 r=V.tup []∧
 ks=
 [⟨none,false,V.agg
 [(mdV l'101.m),.agg [.int .i64 l'101.2,.list false l'101.3],
 (fsV l'101.s),
 .agg
 [.agg
 (arrF 16 (FS.f (LK.o l'101))),
 .bool (LK.o l'101).2,.list false rows'108,.int .i64 (LK.o l'101).4,.list false zs115],
 .sl 1 (List.length l'101.6),.bool l'101.7,.bool l'101.8]⟩,
 ⟨some 79,false,V.agg l'101.6⟩])))))))∧
 ((LK.s l).2=false→
 ∃l146,
 (lkV l 1)=
 (lkV l146 1)∧
 l.6=l146.6∧
 ∀(l'147:LK),
 l'147=zW l146 false→
 ∀(x149:Bool),
 x149=!l'147.8→
 (x149=true→
 r=V.tup []∧
 ks=
 [⟨none,false,(lkV l'147 1)⟩,
 ⟨some 79,false,V.agg l'147.6⟩])∧
 (x149=false→
 KLs (LK.s l'147).3∧
 List.length (LK.s l'147).3≤1000∧
 (LK.s l'147).3≠[]∧
 ∀(zs153:List V),
 zs153=(LK.s l'147).3→
 ∀(x155:Bool),
 x155=(l'147.2==45)→
 (x155=true→
 List.length (LK.s l'147).5≤9223372036854775807→
 ∀(x159:Int),
 x159=↑(List.length (LK.s l'147).5)→
 (∀(v161:V),List.Mem v161 l'147.6→V.ids v161=[])∧
 (∀(v163:V),List.Mem v163 zs153→V.ids v163=[])∧
 Int.ofNat 0=0∧
 x159=↑(List.length (LK.s l'147).5)∧
 NLs (LK.s l'147).5∧
 List.length (LK.s l'147).5≤1000∧
 ∃l165,
 V.agg
 [(mdV l'147.m),.agg [.int .i64 l'147.2,.list false l'147.3],
 (fsV l'147.s),
 .agg
 [.agg
 (arrF 16 (FS.f (LK.o l'147))),
 .bool (LK.o l'147).2,.sl 1027 (List.length zs153),.int .i64 (LK.o l'147).4,.list false (LK.o l'147).5],
 .sl 1 (List.length l'147.6),.bool l'147.7,.bool l'147.8]=
 (lkY l165 1 1027)∧
 l'147.6=l165.6∧
 zs153=(LK.o l165).3∧
 (∀(v166:V),List.Mem v166 l165.6→V.ids v166=[])∧
 KLs (LK.o l165).3∧
 ∀(l'168:LK),
 l'168=⟨l165.1,l165.2,l165.3,l165.4,l165.5,l165.6,l165.7,if l165.8=true then tagsOk n2 (LK.s l'147).5 else false⟩→
 ∃l170,
 (lkY l'168 1 1027)=
 (lkY l170 1 1027)∧
 l'168.6=l170.6∧
 (LK.o l'168).3=(LK.o l170).3∧
 Int.ofNat 0≤1∧
 (1:Int)<↑(List.length l170.3)∧
 ∃t171 n9172 ls9173,
 getV l170.3 1=V.agg [.int .i64 t171,.int .i64 n9172,.list false ls9173]∧
 List.length (LK.o l'168).3=List.length (LK.o l'168).3∧
 0≤n2∧
 n2<↑(List.length (LK.o l'168).3)∧
 some 2=some 2∧
 List.length (LK.o l'168).3=List.length (LK.o l'168).3∧
 [Int.toNat n2]≠[]∧
 offQ (V.agg (LK.o l'168).3) [Int.toNat n2]=Int.toNat n2*2∧
 (∃u174,subQ (V.agg (LK.o l'168).3) [Int.toNat n2]=some u174∧V.sz (V.agg [.int .i64 256,.int .i64 n9172])=V.sz u174∧V.sz (V.agg [.int .i64 256,.int .i64 n9172])=V.sz u174)∧
 ∃rows'175,
 V.agg rows'175=updQ (V.agg [.int .i64 256,.int .i64 n9172]) (V.agg (LK.o l'168).3) [Int.toNat n2]∧
 (1=List.length [V.int .i64 n2]∧
 3=3∧
 ((true||false)=true∧True)∧
 (∀(v176:V),List.Mem v176 (LK.s l'168).5→V.sz v176=1)∧some 1=some 1∧true=true∧∃b9178,some 8=some b9178∧(1+List.length (LK.s l'168).5)*b9178≤140737488355328∧1+List.length (LK.s l'168).5≤9223372036854775807)∧
 (True→
 List.length (LK.o l'168).3=List.length rows'175∧
 List.length [V.int .i64 n2]+List.length (LK.s l'168).5=List.length (V.int .i64 n2::(LK.s l'168).5)∧
 r=V.tup []∧
 ks=
 [⟨none,false,V.agg
 [(mdV l'168.m),.agg [.int .i64 l'168.2,.list false l'168.3],
 (fsV l'168.s),
 .agg
 [.agg
 (arrF 16 (FS.f (LK.o l'168))),
 .bool (LK.o l'168).2,.list false rows'175,.int .i64 (LK.o l'168).4,.list false (V.int .i64 n2::(LK.s l'168).5)],
 .sl 1 (List.length l'168.6),.bool l'168.7,.bool l'168.8]⟩,
 ⟨some 79,false,V.agg l'168.6⟩]))∧
 (x155=false→
 List.length (LK.s l'147).5≤9223372036854775807→
 ∀(x182:Int),
 x182=↑(List.length (LK.s l'147).5)→
 ∀(x184:Bool),
 x184=decide (x182>0)→
 (x184=true→
 Int.ofNat 0≤0∧
 (0:Int)<↑(List.length (LK.s l'147).5)∧
 ∃n9187,
 getV (LK.s l'147).5 0=V.int .i64 n9187∧
 ∀(x188:Bool),
 x188=(n9187==n2)→
 ∃l190,
 V.agg
 [(mdV l'147.m),.agg [.int .i64 l'147.2,.list false l'147.3],
 (fsV l'147.s),
 .agg
 [.agg
 (arrF 16 (FS.f (LK.o l'147))),
 .bool (LK.o l'147).2,.sl 1027 (List.length zs153),.int .i64 (LK.o l'147).4,.list false (LK.o l'147).5],
 .sl 1 (List.length l'147.6),.bool l'147.7,.bool l'147.8]=
 (lkY l190 1 1027)∧
 l'147.6=l190.6∧
 zs153=(LK.o l190).3∧
 ∀(l'191:LK),
 l'191=zW l190 x188→
 ∀(x193:Bool),
 x193=!l'191.8→
 (x193=true→
 List.length (LK.o l'191).3=List.length (LK.o l'191).3∧
 r=V.tup []∧
 ks=
 [⟨none,false,(lkV l'191 1)⟩,
 ⟨some 79,false,V.agg l'191.6⟩])∧
 (x193=false→
 List.length (LK.o l'191).3=List.length (LK.o l'191).3∧
 0≤n2∧
 n2<↑(List.length (LK.o l'191).3)∧
 some 2=some 2∧
 List.length (LK.o l'191).3=List.length (LK.o l'191).3∧
 [Int.toNat n2]≠[]∧
 offQ (V.agg (LK.o l'191).3) [Int.toNat n2]=Int.toNat n2*2∧
 (∃u197,subQ (V.agg (LK.o l'191).3) [Int.toNat n2]=some u197∧V.sz (V.agg [.int .i64 4,.int .i64 (-1)])=V.sz u197∧V.sz (V.agg [.int .i64 4,.int .i64 (-1)])=V.sz u197)∧
 ∃rows'198,
 V.agg rows'198=updQ (V.agg [.int .i64 4,.int .i64 (-1)]) (V.agg (LK.o l'191).3) [Int.toNat n2]∧
 (True∧
 false=false∧
 True∧
 True∧
 True∧
 ((none:Option V)≠none→(none:Option V)≠none∧Int.ofNat 0=Int.ofNat 0)∧
 0≤Int.ofNat 1∧Int.ofNat 1≤Int.ofNat (List.length (LK.s l'191).5)∧Int.ofNat (List.length (LK.s l'191).5)≤↑(List.length (LK.s l'191).5)∧some 1=some 1∧∀(v200:V),List.Mem v200 (LK.s l'191).5→V.sz v200=1)∧
 (True→
 ∀(x203:List V),
 x203=List.take (Int.toNat (Int.ofNat (List.length (LK.s l'191).5)-Int.ofNat 1)) (List.drop (Int.toNat (Int.ofNat 1)) (LK.s l'191).5)→
 NLs x203∧
 List.length x203≤1000∧
 ∀(zs205:List V),
 zs205=x203→
 ∀(x207:Bool),
 x207=(l'191.2==47)→
 (x207=true→
 Int.ofNat 0≤0∧
 (0:Int)<↑16∧
 ∀(x210:Bool),
 x210=((meet (Prod.fst (FS.f (LK.s l'191) 0)) (Prod.snd (FS.f (LK.s l'191) 0)) (-1)).1==2)→
 (x210=true→
 Int.ofNat 0≤1∧
 (1:Int)<↑16∧
 (plain (FS.f (LK.s l'191) 1).1 (FS.f (LK.s l'191) 1).2=true→
 Int.ofNat 0≤2∧
 (2:Int)<↑16∧
 ∃l214,
 V.agg
 [(mdV l'191.m),
 .agg [.int .i64 l'191.2,.list false l'191.3],
 (fsV l'191.s),
 .agg
 [.agg
 (arrF 16 (FS.f (LK.o l'191))),
 .bool (LK.o l'191).2,.sl 1027 (List.length (LK.o l'191).3),.int .i64 (LK.o l'191).4,.list false zs205],
 .sl 1 (List.length l'191.6),.bool l'191.7,.bool l'191.8]=
 (lkY l214 1 1027)∧
 l'191.6=l214.6∧
 rows'198=(LK.o l214).3∧
 ∀(l'215:LK),
 l'215=zW l214 (plain (FS.f (LK.s l'191) 2).1 (FS.f (LK.s l'191) 2).2)→
 List.length (LK.o l'215).3=List.length (LK.o l'215).3∧
 ∃f217:Nat→Int×Int,
 (arrF 16 (FS.f (LK.o l'215)))=
 (arrF 16 f217)∧
 SOk
 (arrF 16 (FS.f (LK.o l'215)))
 (LK.o l'215).3 (LK.o l'215).5∧
 ∀(g218:Nat→Int×Int),
 g218=cutF f217 (if 0<if 16<3 then 16 else 3 then if 16<3 then 16 else 3 else 0)→
 r=V.tup []∧
 ks=
 [⟨none,false,V.agg
 [(mdV l'215.m),
 .agg [.int .i64 l'215.2,.list false l'215.3],
 (fsV l'215.s),
 .agg
 [.agg
 (arrF 16 g218),
 .bool (LK.o l'215).2,.list false (LK.o l'215).3,.int .i64 0,.list false (LK.o l'215).5],
 .sl 1 (List.length l'215.6),.bool l'215.7,.bool l'215.8]⟩,
 ⟨some 79,false,V.agg l'215.6⟩])∧
 (plain (FS.f (LK.s l'191) 1).1 (FS.f (LK.s l'191) 1).2=false→
 ∃l221,
 V.agg
 [(mdV l'191.m),
 .agg [.int .i64 l'191.2,.list false l'191.3],
 (fsV l'191.s),
 .agg
 [.agg
 (arrF 16 (FS.f (LK.o l'191))),
 .bool (LK.o l'191).2,.sl 1027 (List.length (LK.o l'191).3),.int .i64 (LK.o l'191).4,.list false zs205],
 .sl 1 (List.length l'191.6),.bool l'191.7,.bool l'191.8]=
 (lkY l221 1 1027)∧
 l'191.6=l221.6∧
 rows'198=(LK.o l221).3∧
 ∀(l'222:LK),
 l'222=zW l221 false→
 List.length (LK.o l'222).3=List.length (LK.o l'222).3∧
 ∃f224:Nat→Int×Int,
 (arrF 16 (FS.f (LK.o l'222)))=
 (arrF 16 f224)∧
 SOk
 (arrF 16 (FS.f (LK.o l'222)))
 (LK.o l'222).3 (LK.o l'222).5∧
 ∀(g225:Nat→Int×Int),
 g225=cutF f224 (if 0<if 16<3 then 16 else 3 then if 16<3 then 16 else 3 else 0)→
 r=V.tup []∧
 ks=
 [⟨none,false,V.agg
 [(mdV l'222.m),
 .agg [.int .i64 l'222.2,.list false l'222.3],
 (fsV l'222.s),
 .agg
 [.agg
 (arrF 16 g225),
 .bool (LK.o l'222).2,.list false (LK.o l'222).3,.int .i64 0,.list false (LK.o l'222).5],
 .sl 1 (List.length l'222.6),.bool l'222.7,.bool l'222.8]⟩,
 ⟨some 79,false,V.agg l'222.6⟩]))∧
 (x210=false→
 ∃l228,
 V.agg
 [(mdV l'191.m),
 .agg [.int .i64 l'191.2,.list false l'191.3],
 (fsV l'191.s),
 .agg
 [.agg
 (arrF 16 (FS.f (LK.o l'191))),
 .bool (LK.o l'191).2,.sl 1027 (List.length (LK.o l'191).3),.int .i64 (LK.o l'191).4,.list false zs205],
 .sl 1 (List.length l'191.6),.bool l'191.7,.bool l'191.8]=
 (lkY l228 1 1027)∧
 l'191.6=l228.6∧
 rows'198=(LK.o l228).3∧
 ∀(l'229:LK),
 l'229=zW l228 false→
 List.length (LK.o l'229).3=List.length (LK.o l'229).3∧
 ∃f231:Nat→Int×Int,
 (arrF 16 (FS.f (LK.o l'229)))=
 (arrF 16 f231)∧
 SOk
 (arrF 16 (FS.f (LK.o l'229)))
 (LK.o l'229).3 (LK.o l'229).5∧
 ∀(g232:Nat→Int×Int),
 g232=cutF f231 (if 0<if 16<3 then 16 else 3 then if 16<3 then 16 else 3 else 0)→
 r=V.tup []∧
 ks=
 [⟨none,false,V.agg
 [(mdV l'229.m),
 .agg [.int .i64 l'229.2,.list false l'229.3],
 (fsV l'229.s),
 .agg
 [.agg
 (arrF 16 g232),
 .bool (LK.o l'229).2,.list false (LK.o l'229).3,.int .i64 0,.list false (LK.o l'229).5],
 .sl 1 (List.length l'229.6),.bool l'229.7,.bool l'229.8]⟩,
 ⟨some 79,false,V.agg l'229.6⟩]))∧
 (x207=false→
 List.length (LK.o l'191).3=List.length rows'198∧
 r=V.tup []∧
 ks=
 [⟨none,false,V.agg
 [(mdV l'191.m),.agg [.int .i64 l'191.2,.list false l'191.3],
 (fsV l'191.s),
 .agg
 [.agg
 (arrF 16 (FS.f (LK.o l'191))),
 .bool (LK.o l'191).2,.list false rows'198,.int .i64 (LK.o l'191).4,.list false zs205],
 .sl 1 (List.length l'191.6),.bool l'191.7,.bool l'191.8]⟩,
 ⟨some 79,false,V.agg l'191.6⟩]))))∧
 (x184=false→
 ∃l236,
 V.agg
 [(mdV l'147.m),.agg [.int .i64 l'147.2,.list false l'147.3],
 (fsV l'147.s),
 .agg
 [.agg
 (arrF 16 (FS.f (LK.o l'147))),
 .bool (LK.o l'147).2,.sl 1027 (List.length zs153),.int .i64 (LK.o l'147).4,.list false (LK.o l'147).5],
 .sl 1 (List.length l'147.6),.bool l'147.7,.bool l'147.8]=
 (lkY l236 1 1027)∧
 l'147.6=l236.6∧
 zs153=(LK.o l236).3∧
 ∀(l'237:LK),
 l'237=zW l236 false→
 ∀(x239:Bool),
 x239=!l'237.8→
 (x239=true→
 List.length (LK.o l'237).3=List.length (LK.o l'237).3∧
 r=V.tup []∧
 ks=
 [⟨none,false,(lkV l'237 1)⟩,
 ⟨some 79,false,V.agg l'237.6⟩])∧
 (x239=false→
 List.length (LK.o l'237).3=List.length (LK.o l'237).3∧
 0≤n2∧
 n2<↑(List.length (LK.o l'237).3)∧
 some 2=some 2∧
 List.length (LK.o l'237).3=List.length (LK.o l'237).3∧
 [Int.toNat n2]≠[]∧
 offQ (V.agg (LK.o l'237).3) [Int.toNat n2]=Int.toNat n2*2∧
 (∃u243,subQ (V.agg (LK.o l'237).3) [Int.toNat n2]=some u243∧V.sz (V.agg [.int .i64 4,.int .i64 (-1)])=V.sz u243∧V.sz (V.agg [.int .i64 4,.int .i64 (-1)])=V.sz u243)∧
 ∃rows'244,
 V.agg rows'244=updQ (V.agg [.int .i64 4,.int .i64 (-1)]) (V.agg (LK.o l'237).3) [Int.toNat n2]∧
 (True∧
 false=false∧
 True∧
 True∧
 True∧
 ((none:Option V)≠none→(none:Option V)≠none∧Int.ofNat 0=Int.ofNat 0)∧
 0≤Int.ofNat 1∧Int.ofNat 1≤Int.ofNat (List.length (LK.s l'237).5)∧Int.ofNat (List.length (LK.s l'237).5)≤↑(List.length (LK.s l'237).5)∧some 1=some 1∧∀(v246:V),List.Mem v246 (LK.s l'237).5→V.sz v246=1)∧
 (True→
 ∀(x249:List V),
 x249=List.take (Int.toNat (Int.ofNat (List.length (LK.s l'237).5)-Int.ofNat 1)) (List.drop (Int.toNat (Int.ofNat 1)) (LK.s l'237).5)→
 NLs x249∧
 List.length x249≤1000∧
 ∀(zs251:List V),
 zs251=x249→
 ∀(x253:Bool),
 x253=(l'237.2==47)→
 (x253=true→
 Int.ofNat 0≤0∧
 (0:Int)<↑16∧
 ∀(x256:Bool),
 x256=((meet (Prod.fst (FS.f (LK.s l'237) 0)) (Prod.snd (FS.f (LK.s l'237) 0)) (-1)).1==2)→
 (x256=true→
 Int.ofNat 0≤1∧
 (1:Int)<↑16∧
 (plain (FS.f (LK.s l'237) 1).1 (FS.f (LK.s l'237) 1).2=true→
 Int.ofNat 0≤2∧
 (2:Int)<↑16∧
 ∃l260,
 V.agg
 [(mdV l'237.m),
 .agg [.int .i64 l'237.2,.list false l'237.3],
 (fsV l'237.s),
 .agg
 [.agg
 (arrF 16 (FS.f (LK.o l'237))),
 .bool (LK.o l'237).2,.sl 1027 (List.length (LK.o l'237).3),.int .i64 (LK.o l'237).4,.list false zs251],
 .sl 1 (List.length l'237.6),.bool l'237.7,.bool l'237.8]=
 (lkY l260 1 1027)∧
 l'237.6=l260.6∧
 rows'244=(LK.o l260).3∧
 ∀(l'261:LK),
 l'261=zW l260 (plain (FS.f (LK.s l'237) 2).1 (FS.f (LK.s l'237) 2).2)→
 List.length (LK.o l'261).3=List.length (LK.o l'261).3∧
 ∃f263:Nat→Int×Int,
 (arrF 16 (FS.f (LK.o l'261)))=
 (arrF 16 f263)∧
 SOk
 (arrF 16 (FS.f (LK.o l'261)))
 (LK.o l'261).3 (LK.o l'261).5∧
 ∀(g264:Nat→Int×Int),
 g264=cutF f263 (if 0<if 16<3 then 16 else 3 then if 16<3 then 16 else 3 else 0)→
 r=V.tup []∧
 ks=
 [⟨none,false,V.agg
 [(mdV l'261.m),
 .agg [.int .i64 l'261.2,.list false l'261.3],
 (fsV l'261.s),
 .agg
 [.agg
 (arrF 16 g264),
 .bool (LK.o l'261).2,.list false (LK.o l'261).3,.int .i64 0,.list false (LK.o l'261).5],
 .sl 1 (List.length l'261.6),.bool l'261.7,.bool l'261.8]⟩,
 ⟨some 79,false,V.agg l'261.6⟩])∧
 (plain (FS.f (LK.s l'237) 1).1 (FS.f (LK.s l'237) 1).2=false→
 ∃l267,
 V.agg
 [(mdV l'237.m),.agg [.int .i64 l'237.2,.list false l'237.3],
 (fsV l'237.s),
 .agg
 [.agg
 (arrF 16 (FS.f (LK.o l'237))),
 .bool (LK.o l'237).2,.sl 1027 (List.length (LK.o l'237).3),.int .i64 (LK.o l'237).4,.list false zs251],
 .sl 1 (List.length l'237.6),.bool l'237.7,.bool l'237.8]=
 (lkY l267 1 1027)∧
 l'237.6=l267.6∧
 rows'244=(LK.o l267).3∧
 ∀(l'268:LK),
 l'268=zW l267 false→
 List.length (LK.o l'268).3=List.length (LK.o l'268).3∧
 ∃f270:Nat→Int×Int,
 (arrF 16 (FS.f (LK.o l'268)))=
 (arrF 16 f270)∧
 SOk
 (arrF 16 (FS.f (LK.o l'268)))
 (LK.o l'268).3 (LK.o l'268).5∧
 ∀(g271:Nat→Int×Int),
 g271=cutF f270 (if 0<if 16<3 then 16 else 3 then if 16<3 then 16 else 3 else 0)→
 r=V.tup []∧
 ks=
 [⟨none,false,V.agg
 [(mdV l'268.m),
 .agg [.int .i64 l'268.2,.list false l'268.3],
 (fsV l'268.s),
 .agg
 [.agg
 (arrF 16 g271),
 .bool (LK.o l'268).2,.list false (LK.o l'268).3,.int .i64 0,.list false (LK.o l'268).5],
 .sl 1 (List.length l'268.6),.bool l'268.7,.bool l'268.8]⟩,
 ⟨some 79,false,V.agg l'268.6⟩]))∧
 (x256=false→
 ∃l274,
 V.agg
 [(mdV l'237.m),.agg [.int .i64 l'237.2,.list false l'237.3],
 (fsV l'237.s),
 .agg
 [.agg
 (arrF 16 (FS.f (LK.o l'237))),
 .bool (LK.o l'237).2,.sl 1027 (List.length (LK.o l'237).3),.int .i64 (LK.o l'237).4,.list false zs251],
 .sl 1 (List.length l'237.6),.bool l'237.7,.bool l'237.8]=
 (lkY l274 1 1027)∧
 l'237.6=l274.6∧
 rows'244=(LK.o l274).3∧
 ∀(l'275:LK),
 l'275=zW l274 false→
 List.length (LK.o l'275).3=List.length (LK.o l'275).3∧
 ∃f277:Nat→Int×Int,
 (arrF 16 (FS.f (LK.o l'275)))=
 (arrF 16 f277)∧
 SOk
 (arrF 16 (FS.f (LK.o l'275)))
 (LK.o l'275).3 (LK.o l'275).5∧
 ∀(g278:Nat→Int×Int),
 g278=cutF f277 (if 0<if 16<3 then 16 else 3 then if 16<3 then 16 else 3 else 0)→
 r=V.tup []∧
 ks=
 [⟨none,false,V.agg
 [(mdV l'275.m),
 .agg [.int .i64 l'275.2,.list false l'275.3],
 (fsV l'275.s),
 .agg
 [.agg
 (arrF 16 g278),
 .bool (LK.o l'275).2,.list false (LK.o l'275).3,.int .i64 0,.list false (LK.o l'275).5],
 .sl 1 (List.length l'275.6),.bool l'275.7,.bool l'275.8]⟩,
 ⟨some 79,false,V.agg l'275.6⟩]))∧
 (x253=false→
 List.length (LK.o l'237).3=List.length rows'244∧
 r=V.tup []∧
 ks=
 [⟨none,false,V.agg
 [(mdV l'237.m),.agg [.int .i64 l'237.2,.list false l'237.3],
 (fsV l'237.s),
 .agg
 [.agg
 (arrF 16 (FS.f (LK.o l'237))),
 .bool (LK.o l'237).2,.list false rows'244,.int .i64 (LK.o l'237).4,.list false zs251],
 .sl 1 (List.length l'237.6),.bool l'237.7,.bool l'237.8]⟩,
 ⟨some 79,false,V.agg l'237.6⟩])))))))):=by kernel_rfl
theorem n36 (l:LK) (r:V) (ks:List Blk):wC Try.prog sp36 100 zB (zO []) noLs 0 (zC Try.f36) 1000 (zL [.ptr 0 0 []] 0) [(0,⟨none,false,lkV l 1⟩),(1,⟨some 79,false,.agg l.es⟩)] (finQ Try.prog [] none Try.f36.results.toList [0,1] fun v bs=>r=v∧ks=bs)=(
 ∀(x0:Bool),
 x0=!l.8→
 (x0=true→
 r=V.tup []∧
 ks=
 [⟨none,false,(lkV l 1)⟩,
 ⟨some 79,false,V.agg l.6⟩])∧
 (x0=false→
 (∀(u4:V),List.Mem u4 l.3→T28 u4)∧
 ∀(x6:Bool),
 x6=!thr (fitsG l.2 l.3) l.2 l.3→
 (x6=true→
 r=V.tup []∧
 ks=
 [⟨none,false,(lkV l 1)⟩,
 ⟨some 79,false,V.agg l.6⟩])∧
 (x6=false→
 List.length (LK.s l).5≤9223372036854775807→
 ∀(x11:Int),
 x11=↑(List.length (LK.s l).5)→
 ∀(x13:Bool),
 x13=(x11==0)→
 (x13=true→
 r=V.tup []∧
 ks=
 [⟨none,false,(lkV l 1)⟩,
 ⟨some 79,false,V.agg l.6⟩])∧
 (x13=false→
 Int.ofNat 0≤0∧
 (0:Int)<↑(List.length (LK.s l).5)∧
 ∃n9017,
 getV (LK.s l).5 0=V.int .i64 n9017∧
 ((LK.s l).2=true→
 List.length (LK.s l).3≤9223372036854775807→
 ∀(x20:Int),
 x20=↑(List.length (LK.s l).3)→
 ∀(x22:Int),
 x22=IntKind.wrap .i64 (x20-1)→
 (betw n9017 0 x22=true→
 SOk
 (arrF 16 (FS.f (LK.s l)))
 (LK.s l).3 (LK.s l).5∧
 ∃l25,
 (lkV l 1)=
 (lkV l25 1)∧
 l.6=l25.6∧
 ∀(l'26:LK),
 l'26=zW l25 (readyB (LK.s l).2 (LK.s l).3)→
 ∀(x28:Bool),
 x28=!l'26.8→
 (x28=true→
 r=V.tup []∧
 ks=
 [⟨none,false,(lkV l'26 1)⟩,
 ⟨some 79,false,V.agg l'26.6⟩])∧
 (x28=false→
 0≤n9017∧
 n9017<↑(List.length (LK.s l'26).3)∧
 ∃n45 n46,
 getV (LK.s l'26).3 n9017=V.agg [.int .i64 n45,.int .i64 n46]∧
 ∀(x34:Bool),
 x34=((meet n45 n46 (-1)).1==256)→
 (x34=true→
 ∀(x37:Bool),
 x37=decide ((meet n45 n46 (-1)).2≥0)→
 ∃l39,
 (lkV l'26 1)=
 (lkV l39 1)∧
 l'26.6=l39.6∧
 ∀(l'40:LK),
 l'40=zW l39 x37→
 ∃f42:Nat→Int×Int,
 (arrF 16 (FS.f (LK.s l'40)))=
 (arrF 16 f42)∧
 SOk
 (arrF 16 (FS.f (LK.s l'40)))
 (LK.s l'40).3 (LK.s l'40).5∧
 ∀(g43:Nat→Int×Int),
 g43=cutF f42 (if 0<if 16<0 then 16 else 0 then if 16<0 then 16 else 0 else 0)→
 Int.ofNat 0≤0∧
 (0:Int)<↑16∧
 Int.ofNat 0≤1∧
 (1:Int)<↑16∧
 Int.ofNat 0≤2∧
 (2:Int)<↑16∧
 1=List.length [V.int .i64 (meet n45 n46 (-1)).2]∧
 ∃l45,
 (lkV l'40 1)=
 (lkV l45 1)∧
 l'40.6=l45.6∧
 LOk l45∧
 NLs [V.int .i64 (meet n45 n46 (-1)).2]∧
 List.length [V.int .i64 (meet n45 n46 (-1)).2]≤1000∧
 List.length l45.6≤5000∧
 ∃f46:Nat→Int×Int,
 [V.agg [.int .i64 2,.int .i64 (-1)],V.agg [.int .i64 127,.int .i64 (-1)],V.agg [.int .i64 4,.int .i64 (-1)],V.agg [.int .i64 (g43 3).1,.int .i64 (g43 3).2],
 V.agg [.int .i64 (g43 4).1,.int .i64 (g43 4).2],V.agg [.int .i64 (g43 5).1,.int .i64 (g43 5).2],V.agg [.int .i64 (g43 6).1,.int .i64 (g43 6).2],
 V.agg [.int .i64 (g43 7).1,.int .i64 (g43 7).2],V.agg [.int .i64 (g43 8).1,.int .i64 (g43 8).2],V.agg [.int .i64 (g43 9).1,.int .i64 (g43 9).2],
 V.agg [.int .i64 (g43 10).1,.int .i64 (g43 10).2],V.agg [.int .i64 (g43 11).1,.int .i64 (g43 11).2],V.agg [.int .i64 (g43 12).1,.int .i64 (g43 12).2],
 V.agg [.int .i64 (g43 13).1,.int .i64 (g43 13).2],V.agg [.int .i64 (g43 14).1,.int .i64 (g43 14).2],V.agg [.int .i64 (g43 15).1,.int .i64 (g43 15).2]]=
 (arrF 16 f46)∧
 ∀(l'47:LK),
 l'47=edgeL l45 ⟨f46,(LK.s l'40).2,(LK.s l'40).3,0,(LK.s l'40).5⟩ [V.int .i64 (meet n45 n46 (-1)).2]→
 r=V.tup []∧
 ks=
 [⟨none,false,(lkV l'47 1)⟩,
 ⟨some 79,false,V.agg l'47.6⟩])∧
 (x34=false→
 ∃l50,
 (lkV l'26 1)=
 (lkV l50 1)∧
 l'26.6=l50.6∧
 ∀(l'51:LK),
 l'51=zW l50 false→
 ∃f53:Nat→Int×Int,
 (arrF 16 (FS.f (LK.s l'51)))=
 (arrF 16 f53)∧
 SOk
 (arrF 16 (FS.f (LK.s l'51)))
 (LK.s l'51).3 (LK.s l'51).5∧
 ∀(g54:Nat→Int×Int),
 g54=cutF f53 (if 0<if 16<0 then 16 else 0 then if 16<0 then 16 else 0 else 0)→
 Int.ofNat 0≤0∧
 (0:Int)<↑16∧
 Int.ofNat 0≤1∧
 (1:Int)<↑16∧
 Int.ofNat 0≤2∧
 (2:Int)<↑16∧
 1=List.length [V.int .i64 (meet n45 n46 (-1)).2]∧
 ∃l56,
 (lkV l'51 1)=
 (lkV l56 1)∧
 l'51.6=l56.6∧
 LOk l56∧
 NLs [V.int .i64 (meet n45 n46 (-1)).2]∧
 List.length [V.int .i64 (meet n45 n46 (-1)).2]≤1000∧
 List.length l56.6≤5000∧
 ∃f57:Nat→Int×Int,
 [V.agg [.int .i64 2,.int .i64 (-1)],V.agg [.int .i64 127,.int .i64 (-1)],V.agg [.int .i64 4,.int .i64 (-1)],V.agg [.int .i64 (g54 3).1,.int .i64 (g54 3).2],
 V.agg [.int .i64 (g54 4).1,.int .i64 (g54 4).2],V.agg [.int .i64 (g54 5).1,.int .i64 (g54 5).2],V.agg [.int .i64 (g54 6).1,.int .i64 (g54 6).2],
 V.agg [.int .i64 (g54 7).1,.int .i64 (g54 7).2],V.agg [.int .i64 (g54 8).1,.int .i64 (g54 8).2],V.agg [.int .i64 (g54 9).1,.int .i64 (g54 9).2],
 V.agg [.int .i64 (g54 10).1,.int .i64 (g54 10).2],V.agg [.int .i64 (g54 11).1,.int .i64 (g54 11).2],V.agg [.int .i64 (g54 12).1,.int .i64 (g54 12).2],
 V.agg [.int .i64 (g54 13).1,.int .i64 (g54 13).2],V.agg [.int .i64 (g54 14).1,.int .i64 (g54 14).2],V.agg [.int .i64 (g54 15).1,.int .i64 (g54 15).2]]=
 (arrF 16 f57)∧
 ∀(l'58:LK),
 l'58=edgeL l56 ⟨f57,(LK.s l'51).2,(LK.s l'51).3,0,(LK.s l'51).5⟩ [V.int .i64 (meet n45 n46 (-1)).2]→
 r=V.tup []∧
 ks=
 [⟨none,false,(lkV l'58 1)⟩,
 ⟨some 79,false,V.agg l'58.6⟩])))∧
 (betw n9017 0 x22=false→
 ∃l61,
 (lkV l 1)=
 (lkV l61 1)∧
 l.6=l61.6∧
 ∀(l'62:LK),
 l'62=zW l61 false→
 ∀(x64:Bool),
 x64=!l'62.8→
 (x64=true→
 r=V.tup []∧
 ks=
 [⟨none,false,(lkV l'62 1)⟩,
 ⟨some 79,false,V.agg l'62.6⟩])∧
 (x64=false→
 0≤n9017∧
 n9017<↑(List.length (LK.s l'62).3)∧
 ∃n84 n85,
 getV (LK.s l'62).3 n9017=V.agg [.int .i64 n84,.int .i64 n85]∧
 ∀(x70:Bool),
 x70=((meet n84 n85 (-1)).1==256)→
 (x70=true→
 ∀(x73:Bool),
 x73=decide ((meet n84 n85 (-1)).2≥0)→
 ∃l75,
 (lkV l'62 1)=
 (lkV l75 1)∧
 l'62.6=l75.6∧
 ∀(l'76:LK),
 l'76=zW l75 x73→
 ∃f78:Nat→Int×Int,
 (arrF 16 (FS.f (LK.s l'76)))=
 (arrF 16 f78)∧
 SOk
 (arrF 16 (FS.f (LK.s l'76)))
 (LK.s l'76).3 (LK.s l'76).5∧
 ∀(g79:Nat→Int×Int),
 g79=cutF f78 (if 0<if 16<0 then 16 else 0 then if 16<0 then 16 else 0 else 0)→
 Int.ofNat 0≤0∧
 (0:Int)<↑16∧
 Int.ofNat 0≤1∧
 (1:Int)<↑16∧
 Int.ofNat 0≤2∧
 (2:Int)<↑16∧
 1=List.length [V.int .i64 (meet n84 n85 (-1)).2]∧
 ∃l81,
 (lkV l'76 1)=
 (lkV l81 1)∧
 l'76.6=l81.6∧
 LOk l81∧
 NLs [V.int .i64 (meet n84 n85 (-1)).2]∧
 List.length [V.int .i64 (meet n84 n85 (-1)).2]≤1000∧
 List.length l81.6≤5000∧
 ∃f82:Nat→Int×Int,
 [V.agg [.int .i64 2,.int .i64 (-1)],V.agg [.int .i64 127,.int .i64 (-1)],V.agg [.int .i64 4,.int .i64 (-1)],V.agg [.int .i64 (g79 3).1,.int .i64 (g79 3).2],
 V.agg [.int .i64 (g79 4).1,.int .i64 (g79 4).2],V.agg [.int .i64 (g79 5).1,.int .i64 (g79 5).2],V.agg [.int .i64 (g79 6).1,.int .i64 (g79 6).2],
 V.agg [.int .i64 (g79 7).1,.int .i64 (g79 7).2],V.agg [.int .i64 (g79 8).1,.int .i64 (g79 8).2],V.agg [.int .i64 (g79 9).1,.int .i64 (g79 9).2],
 V.agg [.int .i64 (g79 10).1,.int .i64 (g79 10).2],V.agg [.int .i64 (g79 11).1,.int .i64 (g79 11).2],V.agg [.int .i64 (g79 12).1,.int .i64 (g79 12).2],
 V.agg [.int .i64 (g79 13).1,.int .i64 (g79 13).2],V.agg [.int .i64 (g79 14).1,.int .i64 (g79 14).2],V.agg [.int .i64 (g79 15).1,.int .i64 (g79 15).2]]=
 (arrF 16 f82)∧
 ∀(l'83:LK),
 l'83=edgeL l81 ⟨f82,(LK.s l'76).2,(LK.s l'76).3,0,(LK.s l'76).5⟩ [V.int .i64 (meet n84 n85 (-1)).2]→
 r=V.tup []∧
 ks=
 [⟨none,false,(lkV l'83 1)⟩,
 ⟨some 79,false,V.agg l'83.6⟩])∧
 (x70=false→
 ∃l86,
 (lkV l'62 1)=
 (lkV l86 1)∧
 l'62.6=l86.6∧
 ∀(l'87:LK),
 l'87=zW l86 false→
 ∃f89:Nat→Int×Int,
 (arrF 16 (FS.f (LK.s l'87)))=
 (arrF 16 f89)∧
 SOk
 (arrF 16 (FS.f (LK.s l'87)))
 (LK.s l'87).3 (LK.s l'87).5∧
 ∀(g90:Nat→Int×Int),
 g90=cutF f89 (if 0<if 16<0 then 16 else 0 then if 16<0 then 16 else 0 else 0)→
 Int.ofNat 0≤0∧
 (0:Int)<↑16∧
 Int.ofNat 0≤1∧
 (1:Int)<↑16∧
 Int.ofNat 0≤2∧
 (2:Int)<↑16∧
 1=List.length [V.int .i64 (meet n84 n85 (-1)).2]∧
 ∃l92,
 (lkV l'87 1)=
 (lkV l92 1)∧
 l'87.6=l92.6∧
 LOk l92∧
 NLs [V.int .i64 (meet n84 n85 (-1)).2]∧
 List.length [V.int .i64 (meet n84 n85 (-1)).2]≤1000∧
 List.length l92.6≤5000∧
 ∃f93:Nat→Int×Int,
 [V.agg [.int .i64 2,.int .i64 (-1)],V.agg [.int .i64 127,.int .i64 (-1)],V.agg [.int .i64 4,.int .i64 (-1)],V.agg [.int .i64 (g90 3).1,.int .i64 (g90 3).2],
 V.agg [.int .i64 (g90 4).1,.int .i64 (g90 4).2],V.agg [.int .i64 (g90 5).1,.int .i64 (g90 5).2],V.agg [.int .i64 (g90 6).1,.int .i64 (g90 6).2],
 V.agg [.int .i64 (g90 7).1,.int .i64 (g90 7).2],V.agg [.int .i64 (g90 8).1,.int .i64 (g90 8).2],V.agg [.int .i64 (g90 9).1,.int .i64 (g90 9).2],
 V.agg [.int .i64 (g90 10).1,.int .i64 (g90 10).2],V.agg [.int .i64 (g90 11).1,.int .i64 (g90 11).2],V.agg [.int .i64 (g90 12).1,.int .i64 (g90 12).2],
 V.agg [.int .i64 (g90 13).1,.int .i64 (g90 13).2],V.agg [.int .i64 (g90 14).1,.int .i64 (g90 14).2],V.agg [.int .i64 (g90 15).1,.int .i64 (g90 15).2]]=
 (arrF 16 f93)∧
 ∀(l'94:LK),
 l'94=edgeL l92 ⟨f93,(LK.s l'87).2,(LK.s l'87).3,0,(LK.s l'87).5⟩ [V.int .i64 (meet n84 n85 (-1)).2]→
 r=V.tup []∧
 ks=
 [⟨none,false,(lkV l'94 1)⟩,
 ⟨some 79,false,V.agg l'94.6⟩]))))∧
 ((LK.s l).2=false→
 ∃l97,
 (lkV l 1)=
 (lkV l97 1)∧
 l.6=l97.6∧
 ∀(l'98:LK),
 l'98=zW l97 false→
 ∀(x100:Bool),
 x100=!l'98.8→
 (x100=true→
 r=V.tup []∧
 ks=
 [⟨none,false,(lkV l'98 1)⟩,
 ⟨some 79,false,V.agg l'98.6⟩])∧
 (x100=false→
 0≤n9017∧
 n9017<↑(List.length (LK.s l'98).3)∧
 ∃n9104 n9105,
 getV (LK.s l'98).3 n9017=V.agg [.int .i64 n9104,.int .i64 n9105]∧
 ∀(x106:Bool),
 x106=((meet n9104 n9105 (-1)).1==256)→
 (x106=true→
 ∀(x109:Bool),
 x109=decide ((meet n9104 n9105 (-1)).2≥0)→
 ∃l111,
 (lkV l'98 1)=
 (lkV l111 1)∧
 l'98.6=l111.6∧
 ∀(l'112:LK),
 l'112=zW l111 x109→
 ∃f114:Nat→Int×Int,
 (arrF 16 (FS.f (LK.s l'112)))=
 (arrF 16 f114)∧
 SOk
 (arrF 16 (FS.f (LK.s l'112)))
 (LK.s l'112).3 (LK.s l'112).5∧
 ∀(g115:Nat→Int×Int),
 g115=cutF f114 (if 0<if 16<0 then 16 else 0 then if 16<0 then 16 else 0 else 0)→
 Int.ofNat 0≤0∧
 (0:Int)<↑16∧
 Int.ofNat 0≤1∧
 (1:Int)<↑16∧
 Int.ofNat 0≤2∧
 (2:Int)<↑16∧
 1=List.length [V.int .i64 (meet n9104 n9105 (-1)).2]∧
 ∃l117,
 (lkV l'112 1)=
 (lkV l117 1)∧
 l'112.6=l117.6∧
 LOk l117∧
 NLs [V.int .i64 (meet n9104 n9105 (-1)).2]∧
 List.length [V.int .i64 (meet n9104 n9105 (-1)).2]≤1000∧
 List.length l117.6≤5000∧
 ∃f118:Nat→Int×Int,
 [V.agg [.int .i64 2,.int .i64 (-1)],V.agg [.int .i64 127,.int .i64 (-1)],V.agg [.int .i64 4,.int .i64 (-1)],V.agg [.int .i64 (g115 3).1,.int .i64 (g115 3).2],
 V.agg [.int .i64 (g115 4).1,.int .i64 (g115 4).2],V.agg [.int .i64 (g115 5).1,.int .i64 (g115 5).2],V.agg [.int .i64 (g115 6).1,.int .i64 (g115 6).2],
 V.agg [.int .i64 (g115 7).1,.int .i64 (g115 7).2],V.agg [.int .i64 (g115 8).1,.int .i64 (g115 8).2],V.agg [.int .i64 (g115 9).1,.int .i64 (g115 9).2],
 V.agg [.int .i64 (g115 10).1,.int .i64 (g115 10).2],V.agg [.int .i64 (g115 11).1,.int .i64 (g115 11).2],V.agg [.int .i64 (g115 12).1,.int .i64 (g115 12).2],
 V.agg [.int .i64 (g115 13).1,.int .i64 (g115 13).2],V.agg [.int .i64 (g115 14).1,.int .i64 (g115 14).2],V.agg [.int .i64 (g115 15).1,.int .i64 (g115 15).2]]=
 (arrF 16 f118)∧
 ∀(l'119:LK),
 l'119=edgeL l117 ⟨f118,(LK.s l'112).2,(LK.s l'112).3,0,(LK.s l'112).5⟩ [V.int .i64 (meet n9104 n9105 (-1)).2]→
 r=V.tup []∧
 ks=
 [⟨none,false,(lkV l'119 1)⟩,
 ⟨some 79,false,V.agg l'119.6⟩])∧
 (x106=false→
 ∃l122,
 (lkV l'98 1)=
 (lkV l122 1)∧
 l'98.6=l122.6∧
 ∀(l'123:LK),
 l'123=zW l122 false→
 ∃f125:Nat→Int×Int,
 (arrF 16 (FS.f (LK.s l'123)))=
 (arrF 16 f125)∧
 SOk
 (arrF 16 (FS.f (LK.s l'123)))
 (LK.s l'123).3 (LK.s l'123).5∧
 ∀(g126:Nat→Int×Int),
 g126=cutF f125 (if 0<if 16<0 then 16 else 0 then if 16<0 then 16 else 0 else 0)→
 Int.ofNat 0≤0∧
 (0:Int)<↑16∧
 Int.ofNat 0≤1∧
 (1:Int)<↑16∧
 Int.ofNat 0≤2∧
 (2:Int)<↑16∧
 1=List.length [V.int .i64 (meet n9104 n9105 (-1)).2]∧
 ∃l128,
 (lkV l'123 1)=
 (lkV l128 1)∧
 l'123.6=l128.6∧
 LOk l128∧
 NLs [V.int .i64 (meet n9104 n9105 (-1)).2]∧
 List.length [V.int .i64 (meet n9104 n9105 (-1)).2]≤1000∧
 List.length l128.6≤5000∧
 ∃f129:Nat→Int×Int,
 [V.agg [.int .i64 2,.int .i64 (-1)],V.agg [.int .i64 127,.int .i64 (-1)],V.agg [.int .i64 4,.int .i64 (-1)],V.agg [.int .i64 (g126 3).1,.int .i64 (g126 3).2],
 V.agg [.int .i64 (g126 4).1,.int .i64 (g126 4).2],V.agg [.int .i64 (g126 5).1,.int .i64 (g126 5).2],V.agg [.int .i64 (g126 6).1,.int .i64 (g126 6).2],
 V.agg [.int .i64 (g126 7).1,.int .i64 (g126 7).2],V.agg [.int .i64 (g126 8).1,.int .i64 (g126 8).2],V.agg [.int .i64 (g126 9).1,.int .i64 (g126 9).2],
 V.agg [.int .i64 (g126 10).1,.int .i64 (g126 10).2],V.agg [.int .i64 (g126 11).1,.int .i64 (g126 11).2],V.agg [.int .i64 (g126 12).1,.int .i64 (g126 12).2],
 V.agg [.int .i64 (g126 13).1,.int .i64 (g126 13).2],V.agg [.int .i64 (g126 14).1,.int .i64 (g126 14).2],V.agg [.int .i64 (g126 15).1,.int .i64 (g126 15).2]]=
 (arrF 16 f129)∧
 ∀(l'130:LK),
 l'130=edgeL l128 ⟨f129,(LK.s l'123).2,(LK.s l'123).3,0,(LK.s l'123).5⟩ [V.int .i64 (meet n9104 n9105 (-1)).2]→
 r=V.tup []∧
 ks=
 [⟨none,false,(lkV l'130 1)⟩,
 ⟨some 79,false,V.agg l'130.6⟩]))))))):=by kernel_rfl
end GoL
