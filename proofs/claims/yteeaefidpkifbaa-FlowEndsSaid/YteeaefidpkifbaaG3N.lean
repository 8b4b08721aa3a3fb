/- A part of the proof: a logic proved sound over the model; contracts; plain laws. -/
import Derived.Test.YteeaefidpkifbaaGE
import Derived.Test.YteeaefidpkifbaaG3D
set_option linter.all false
open Go Go.Proofs
namespace GoL
set_option maxRecDepth 100000
theorem n49 (l:LK) (r:V) (ks:List Blk):wC Try.prog sp49 158 zB (zN Try.f49) noLs 0 (zC Try.f49) 1000 (zL [.ptr 0 0 []] 0) [(0,⟨none,false,lkV l 1⟩),(1,⟨some 79,false,.agg l.es⟩)] (finQ Try.prog [] none Try.f49.results.toList [0,1] fun v bs=>r=v∧ks=bs)=(
 ∀(x0:Bool),
 x0=(l.2==6)→
 (x0=true→
 ((LK.s l).2=true→
 SOk
 (arrF 16 (FS.f (LK.s l)))
 (LK.s l).3 (LK.s l).5∧
 ∃l4,
 (lkV l 1)=
 (lkV l4 1)∧
 l.6=l4.6∧
 ∀(l'5:LK),
 l'5=zW l4 (readyB (LK.s l).2 (LK.s l).3)→
 ∃l7,
 (lkV l'5 1)=
 (lkV l7 1)∧
 l'5.6=l7.6∧
 Int.ofNat 0≤0∧
 (0:Int)<↑(List.length l7.3)∧
 ∃t8 n6 ls22,
 getV l7.3 0=V.agg [.int .i64 t8,.int .i64 n6,.list false ls22]∧
 ∃l11,
 (lkV l'5 1)=
 (lkV l11 1)∧
 l'5.6=l11.6∧
 LOk l11∧
 ∀(l'12:LK),
 l'12=plainL l11 n6→
 ∃l14,
 (lkV l'12 1)=
 (lkV l14 1)∧
 l'12.6=l14.6∧
 LOk l14∧
 ∀(l'15:LK),
 l'15=calledL l14→
 r=V.tup []∧
 ks=
 [⟨none,false,(lkV l'15 1)⟩,
 ⟨some 79,false,V.agg l'15.6⟩])∧
 ((LK.s l).2=false→
 ∃l18,
 (lkV l 1)=
 (lkV l18 1)∧
 l.6=l18.6∧
 ∀(l'19:LK),
 l'19=zW l18 false→
 ∃l21,
 (lkV l'19 1)=
 (lkV l21 1)∧
 l'19.6=l21.6∧
 Int.ofNat 0≤0∧
 (0:Int)<↑(List.length l21.3)∧
 ∃t22 n30 ls9024,
 getV l21.3 0=V.agg [.int .i64 t22,.int .i64 n30,.list false ls9024]∧
 ∃l25,
 (lkV l'19 1)=
 (lkV l25 1)∧
 l'19.6=l25.6∧
 LOk l25∧
 ∀(l'26:LK),
 l'26=plainL l25 n30→
 ∃l28,
 (lkV l'26 1)=
 (lkV l28 1)∧
 l'26.6=l28.6∧
 LOk l28∧
 ∀(l'29:LK),
 l'29=calledL l28→
 r=V.tup []∧
 ks=
 [⟨none,false,(lkV l'29 1)⟩,
 ⟨some 79,false,V.agg l'29.6⟩]))∧
 (x0=false→
 ∀(x32:Bool),
 x32=(l.2==7)→
 (x32=true→
 ∀(x35:Bool),
 x35=!(LK.s l).2→
 ∃l37,
 (lkV l 1)=
 (lkV l37 1)∧
 l.6=l37.6∧
 ∀(l'38:LK),
 l'38=zW l37 x35→
 ∃l40,
 (lkV l'38 1)=
 (lkV l40 1)∧
 l'38.6=l40.6∧
 Int.ofNat 0≤0∧
 (0:Int)<↑(List.length l40.3)∧
 ∃t41 n55 ls56,
 getV l40.3 0=V.agg [.int .i64 t41,.int .i64 n55,.list false ls56]∧
 ∃l44,
 (lkV l'38 1)=
 (lkV l44 1)∧
 l'38.6=l44.6∧
 LOk l44∧
 ∀(l'45:LK),
 l'45=plainL l44 n55→
 r=V.tup []∧
 ks=
 [⟨none,false,(lkV l'45 1)⟩,
 ⟨some 79,false,V.agg l'45.6⟩])∧
 (x32=false→
 ∀(x48:Bool),
 x48=(l.2==8)→
 (x48=true→
 ((LK.s l).2=true→
 ∀(x52:Int),
 x52=↑(List.length (LK.s l).3)→
 ∃l54,
 (lkV l 1)=
 (lkV l54 1)∧
 l.6=l54.6∧
 Int.ofNat 0≤2∧
 (2:Int)<↑(List.length l54.3)∧
 ∃t55 n70 ls71,
 getV l54.3 2=V.agg [.int .i64 t55,.int .i64 n70,.list false ls71]∧
 ∀(x58:Bool),
 x58=(x52==n70)→
 (x58=true→
 ∀(x61:Int),
 x61=↑(List.length (LK.s l).5)→
 ∀(x63:Bool),
 x63=(x61==0)→
 ∃l65,
 (lkV l 1)=
 (lkV l65 1)∧
 l.6=l65.6∧
 ∀(l'66:LK),
 l'66=zW l65 x63→
 ∃l68,
 (lkV l'66 1)=
 (lkV l68 1)∧
 l'66.6=l68.6∧
 Int.ofNat 0≤0∧
 (0:Int)<↑(List.length l68.3)∧
 ∃t69 n64 ls40,
 getV l68.3 0=V.agg [.int .i64 t69,.int .i64 n64,.list false ls40]∧
 ∃l72,
 (lkV l'66 1)=
 (lkV l72 1)∧
 l'66.6=l72.6∧
 LOk l72∧
 ∀(l'73:LK),
 l'73=plainL l72 n64→
 r=V.tup []∧
 ks=
 [⟨none,false,(lkV l'73 1)⟩,
 ⟨some 79,false,V.agg l'73.6⟩])∧
 (x58=false→
 ∃l76,
 (lkV l 1)=
 (lkV l76 1)∧
 l.6=l76.6∧
 ∀(l'77:LK),
 l'77=zW l76 false→
 ∃l79,
 (lkV l'77 1)=
 (lkV l79 1)∧
 l'77.6=l79.6∧
 Int.ofNat 0≤0∧
 (0:Int)<↑(List.length l79.3)∧
 ∃t80 n98 ls99,
 getV l79.3 0=V.agg [.int .i64 t80,.int .i64 n98,.list false ls99]∧
 ∃l83,
 (lkV l'77 1)=
 (lkV l83 1)∧
 l'77.6=l83.6∧
 LOk l83∧
 ∀(l'84:LK),
 l'84=plainL l83 n98→
 r=V.tup []∧
 ks=
 [⟨none,false,(lkV l'84 1)⟩,
 ⟨some 79,false,V.agg l'84.6⟩]))∧
 ((LK.s l).2=false→
 ∃l87,
 (lkV l 1)=
 (lkV l87 1)∧
 l.6=l87.6∧
 ∀(l'88:LK),
 l'88=zW l87 false→
 ∃l90,
 (lkV l'88 1)=
 (lkV l90 1)∧
 l'88.6=l90.6∧
 Int.ofNat 0≤0∧
 (0:Int)<↑(List.length l90.3)∧
 ∃t91 n109 ls110,
 getV l90.3 0=V.agg [.int .i64 t91,.int .i64 n109,.list false ls110]∧
 ∃l94,
 (lkV l'88 1)=
 (lkV l94 1)∧
 l'88.6=l94.6∧
 LOk l94∧
 ∀(l'95:LK),
 l'95=plainL l94 n109→
 r=V.tup []∧
 ks=
 [⟨none,false,(lkV l'95 1)⟩,
 ⟨some 79,false,V.agg l'95.6⟩]))∧
 (x48=false→
 ∀(x98:Bool),
 x98=(l.2==9)→
 (x98=true→
 ∃l101,
 (lkV l 1)=
 (lkV l101 1)∧
 l.6=l101.6∧
 Int.ofNat 0≤1∧
 (1:Int)<↑(List.length l101.3)∧
 ∃t102 n9103 ls9104,
 getV l101.3 1=V.agg [.int .i64 t102,.int .i64 n9103,.list false ls9104]∧
 ∀(x105:Int),
 x105=↑(List.length (LK.m l).2)→
 ∀(x107:Bool),
 x107=decide (n9103<x105)→
 (x107=true→
 ∃l110,
 (lkV l 1)=
 (lkV l110 1)∧
 l.6=l110.6∧
 Int.ofNat 0≤1∧
 (1:Int)<↑(List.length l110.3)∧
 ∃t111 n9112 ls9113,
 getV l110.3 1=V.agg [.int .i64 t111,.int .i64 n9112,.list false ls9113]∧
 ∀(x114:Int),
 x114=↑(List.length (LK.m l).2)→
 ∀(x116:Int),
 x116=IntKind.wrap .i64 (x114-1)→
 ∀(z118:Int),
 (z118=if x116<n9112 then x116 else n9112)→
 0≤z118∧
 z118<↑(List.length (LK.m l).2)∧
 ∃n9120 n9121 n9122,
 getV (LK.m l).2 z118=V.agg [.int .i64 n9120,.int .i64 n9121,.int .i64 n9122]∧
 ∃l123,
 (lkV l 1)=
 (lkV l123 1)∧
 l.6=l123.6∧
 Int.ofNat 0≤0∧
 (0:Int)<↑(List.length l123.3)∧
 ∃t124 n9125 ls9126,
 getV l123.3 0=V.agg [.int .i64 t124,.int .i64 n9125,.list false ls9126]∧
 ∀(x127:Bool),
 x127=(n9122==n9125)→
 (x127=true→
 SOk
 (arrF 16 (FS.f (LK.s l)))
 (LK.s l).3 (LK.s l).5∧
 ∃l130,
 (lkV l 1)=
 (lkV l130 1)∧
 l.6=l130.6∧
 ∀(l'131:LK),
 l'131=zW l130 (readyB (LK.s l).2 (LK.s l).3)→
 ∃l133,
 (lkV l'131 1)=
 (lkV l133 1)∧
 l'131.6=l133.6∧
 Int.ofNat 0≤0∧
 (0:Int)<↑(List.length l133.3)∧
 ∃t134 n9135 ls9136,
 getV l133.3 0=V.agg [.int .i64 t134,.int .i64 n9135,.list false ls9136]∧
 ∃l137,
 (lkV l'131 1)=
 (lkV l137 1)∧
 l'131.6=l137.6∧
 LOk l137∧
 ∀(l'138:LK),
 l'138=plainL l137 n9135→
 ∃l140,
 (lkV l'138 1)=
 (lkV l140 1)∧
 l'138.6=l140.6∧
 LOk l140∧
 ∀(l'141:LK),
 l'141=calledL l140→
 r=V.tup []∧
 ks=
 [⟨none,false,(lkV l'141 1)⟩,
 ⟨some 79,false,V.agg l'141.6⟩])∧
 (x127=false→
 ∃l144,
 (lkV l 1)=
 (lkV l144 1)∧
 l.6=l144.6∧
 ∀(l'145:LK),
 l'145=zW l144 false→
 ∃l147,
 (lkV l'145 1)=
 (lkV l147 1)∧
 l'145.6=l147.6∧
 Int.ofNat 0≤0∧
 (0:Int)<↑(List.length l147.3)∧
 ∃t148 n9149 ls9150,
 getV l147.3 0=V.agg [.int .i64 t148,.int .i64 n9149,.list false ls9150]∧
 ∃l151,
 (lkV l'145 1)=
 (lkV l151 1)∧
 l'145.6=l151.6∧
 LOk l151∧
 ∀(l'152:LK),
 l'152=plainL l151 n9149→
 ∃l154,
 (lkV l'152 1)=
 (lkV l154 1)∧
 l'152.6=l154.6∧
 LOk l154∧
 ∀(l'155:LK),
 l'155=calledL l154→
 r=V.tup []∧
 ks=
 [⟨none,false,(lkV l'155 1)⟩,
 ⟨some 79,false,V.agg l'155.6⟩]))∧
 (x107=false→
 ∃l158,
 (lkV l 1)=
 (lkV l158 1)∧
 l.6=l158.6∧
 ∀(l'159:LK),
 l'159=zW l158 false→
 ∃l161,
 (lkV l'159 1)=
 (lkV l161 1)∧
 l'159.6=l161.6∧
 Int.ofNat 0≤0∧
 (0:Int)<↑(List.length l161.3)∧
 ∃t162 n9163 ls9164,
 getV l161.3 0=V.agg [.int .i64 t162,.int .i64 n9163,.list false ls9164]∧
 ∃l165,
 (lkV l'159 1)=
 (lkV l165 1)∧
 l'159.6=l165.6∧
 LOk l165∧
 ∀(l'166:LK),
 l'166=plainL l165 n9163→
 ∃l168,
 (lkV l'166 1)=
 (lkV l168 1)∧
 l'166.6=l168.6∧
 LOk l168∧
 ∀(l'169:LK),
 l'169=calledL l168→
 r=V.tup []∧
 ks=
 [⟨none,false,(lkV l'169 1)⟩,
 ⟨some 79,false,V.agg l'169.6⟩]))∧
 (x98=false→
 ∀(x172:Bool),
 x172=(l.2==10)→
 (x172=true→
 ((LK.s l).2=true→
 SOk
 (arrF 16 (FS.f (LK.s l)))
 (LK.s l).3 (LK.s l).5∧
 ∃l176,
 (lkV l 1)=
 (lkV l176 1)∧
 l.6=l176.6∧
 ∀(l'177:LK),
 l'177=zW l176 (readyB (LK.s l).2 (LK.s l).3)→
 ∃l179,
 (lkV l'177 1)=
 (lkV l179 1)∧
 l'177.6=l179.6∧
 Int.ofNat 0≤0∧
 (0:Int)<↑(List.length l179.3)∧
 ∃t180 n9181 ls9182,
 getV l179.3 0=V.agg [.int .i64 t180,.int .i64 n9181,.list false ls9182]∧
 ∀(x183:Int),
 x183=IntKind.wrap .i64 (n9181+1)→
 ∃l185,
 (lkV l'177 1)=
 (lkV l185 1)∧
 l'177.6=l185.6∧
 LOk l185∧
 ∀(l'186:LK),
 l'186=plainL l185 x183→
 ∃l188,
 (lkV l'186 1)=
 (lkV l188 1)∧
 l'186.6=l188.6∧
 LOk l188∧
 ∀(l'189:LK),
 l'189=calledL l188→
 r=V.tup []∧
 ks=
 [⟨none,false,(lkV l'189 1)⟩,
 ⟨some 79,false,V.agg l'189.6⟩])∧
 ((LK.s l).2=false→
 ∃l192,
 (lkV l 1)=
 (lkV l192 1)∧
 l.6=l192.6∧
 ∀(l'193:LK),
 l'193=zW l192 false→
 ∃l195,
 (lkV l'193 1)=
 (lkV l195 1)∧
 l'193.6=l195.6∧
 Int.ofNat 0≤0∧
 (0:Int)<↑(List.length l195.3)∧
 ∃t196 n9197 ls9198,
 getV l195.3 0=V.agg [.int .i64 t196,.int .i64 n9197,.list false ls9198]∧
 ∀(x199:Int),
 x199=IntKind.wrap .i64 (n9197+1)→
 ∃l201,
 (lkV l'193 1)=
 (lkV l201 1)∧
 l'193.6=l201.6∧
 LOk l201∧
 ∀(l'202:LK),
 l'202=plainL l201 x199→
 ∃l204,
 (lkV l'202 1)=
 (lkV l204 1)∧
 l'202.6=l204.6∧
 LOk l204∧
 ∀(l'205:LK),
 l'205=calledL l204→
 r=V.tup []∧
 ks=
 [⟨none,false,(lkV l'205 1)⟩,
 ⟨some 79,false,V.agg l'205.6⟩]))∧
 (x172=false→
 ∀(x208:Bool),
 x208=!(LK.s l).2→
 ∃l210,
 (lkV l 1)=
 (lkV l210 1)∧
 l.6=l210.6∧
 ∀(l'211:LK),
 l'211=zW l210 x208→
 ∃l213,
 (lkV l'211 1)=
 (lkV l213 1)∧
 l'211.6=l213.6∧
 LOk l213∧
 ∀(l'214:LK),
 l'214=plainL l213 1→
 r=V.tup []∧
 ks=
 [⟨none,false,(lkV l'214 1)⟩,
 ⟨some 79,false,V.agg l'214.6⟩])))))):=by kernel_rfl
theorem n52 (l:LK) (r:V) (ks:List Blk):wC Try.prog sp52 82 zB (zN Try.f52) noLs 0 (zC Try.f52) 1000 (zL [.ptr 0 0 []] 0) [(0,⟨none,false,lkV l 1⟩),(1,⟨some 79,false,.agg l.es⟩)] (finQ Try.prog [] none Try.f52.results.toList [0,1] fun v bs=>r=v∧ks=bs)=(
 List.length l.3≤9223372036854775807→
 ∀(x1:Int),
 x1=↑(List.length l.3)→
 ∀(x3:Int),
 x3=IntKind.wrap .i64 (x1-1)→
 0≤x3∧
 x3<↑(List.length l.3)∧
 ∃n9005 n8 l7,
 getV l.3 x3=V.agg [.int .i64 n9005,.int .i64 n8,.list false l7]∧
 ∀(x8:Bool),
 x8=(l.2==35)→
 (x8=true→
 ∃l11,
 (lkV l 1)=
 (lkV l11 1)∧
 l.6=l11.6∧
 Int.ofNat 0≤2∧
 (2:Int)<↑(List.length l11.3)∧
 ∃t12 n7 ls9014,
 getV l11.3 2=V.agg [.int .i64 t12,.int .i64 n7,.list false ls9014]∧
 ∃l15,
 (lkV l 1)=
 (lkV l15 1)∧
 l.6=l15.6∧
 ∀(l'16:LK),
 l'16=zW l15 (betw n7 1 10)→
 ∃l18,
 (lkV l'16 1)=
 (lkV l18 1)∧
 l'16.6=l18.6∧
 Int.ofNat 0≤3∧
 (3:Int)<↑(List.length l18.3)∧
 ∃t19 n34 ls35,
 getV l18.3 3=V.agg [.int .i64 t19,.int .i64 n34,.list false ls35]∧
 ∃l22,
 (lkV l'16 1)=
 (lkV l22 1)∧
 l'16.6=l22.6∧
 Int.ofNat 0≤4∧
 (4:Int)<↑(List.length l22.3)∧
 ∃t23 n9024 ls9025,
 getV l22.3 4=V.agg [.int .i64 t23,.int .i64 n9024,.list false ls9025]∧
 ∃l26,
 (lkV l'16 1)=
 (lkV l26 1)∧
 l'16.6=l26.6∧
 LOk l26∧
 ArgL [V.agg [.int .i64 t19,.int .i64 n34,.list false ls35],V.agg [.int .i64 t23,.int .i64 n9024,.list false ls9025]]∧
 List.length [V.agg [.int .i64 t19,.int .i64 n34,.list false ls35],V.agg [.int .i64 t23,.int .i64 n9024,.list false ls9025]]≤100000∧
 ∀(q27:Int×Int),
 q27=srcLast l26 (0,0) [V.agg [.int .i64 t19,.int .i64 n34,.list false ls35],V.agg [.int .i64 t23,.int .i64 n9024,.list false ls9025]]→
 ∀(l'29:LK),
 l'29=srcL l26 [V.agg [.int .i64 t19,.int .i64 n34,.list false ls35],V.agg [.int .i64 t23,.int .i64 n9024,.list false ls9025]]→
 ∃l31,
 (lkV l'29 1)=
 (lkV l31 1)∧
 l'29.6=l31.6∧
 Int.ofNat 0≤1∧
 (1:Int)<↑(List.length l31.3)∧
 ∃t32 n46 ls47,
 getV l31.3 1=V.agg [.int .i64 t32,.int .i64 n46,.list false ls47]∧
 ∃l35,
 (lkV l'29 1)=
 (lkV l35 1)∧
 l'29.6=l35.6∧
 LOk l35∧
 ∀(l'36:LK),
 l'36=liveL l35 n46→
 ∃l38,
 (lkV l'36 1)=
 (lkV l38 1)∧
 l'36.6=l38.6∧
 Int.ofNat 0≤0∧
 (0:Int)<↑(List.length l38.3)∧
 ∃t39 n53 ls54,
 getV l38.3 0=V.agg [.int .i64 t39,.int .i64 n53,.list false ls54]∧
 1=List.length [V.int .i64 n53]∧
 ∃l42,
 (lkV l'36 1)=
 (lkV l42 1)∧
 l'36.6=l42.6∧
 LOk l42∧
 NLs [V.int .i64 n53]∧
 List.length [V.int .i64 n53]≤1000∧
 List.length l42.6≤5000∧
 ∃f43:Nat→Int×Int,
 (arrF 16 (FS.f (LK.o l'36)))=
 (arrF 16 f43)∧
 ∀(l'44:LK),
 l'44=edgeL l42 ⟨f43,(LK.o l'36).2,(LK.o l'36).3,(LK.o l'36).4,(LK.o l'36).5⟩ [V.int .i64 n53]→
 ∃l46,
 (lkV l'44 1)=
 (lkV l46 1)∧
 l'44.6=l46.6∧
 LOk l46∧
 ∀(l'47:LK),
 l'47=dstL l46 n9005 n8 1 (-1)→
 r=V.tup []∧
 ks=
 [⟨none,false,(lkV l'47 1)⟩,
 ⟨some 79,false,V.agg l'47.6⟩])∧
 (x8=false→
 ∀(x50:Bool),
 x50=(l.2==36)→
 (x50=true→
 ∃l53,
 (lkV l 1)=
 (lkV l53 1)∧
 l.6=l53.6∧
 Int.ofNat 0≤1∧
 (1:Int)<↑(List.length l53.3)∧
 ∃t54 n69 ls70,
 getV l53.3 1=V.agg [.int .i64 t54,.int .i64 n69,.list false ls70]∧
 ∃l57,
 (lkV l 1)=
 (lkV l57 1)∧
 l.6=l57.6∧
 ∀(l'58:LK),
 l'58=zW l57 (betw n69 1 5)→
 ∃l60,
 (lkV l'58 1)=
 (lkV l60 1)∧
 l'58.6=l60.6∧
 Int.ofNat 0≤2∧
 (2:Int)<↑(List.length l60.3)∧
 ∃t61 n78 ls79,
 getV l60.3 2=V.agg [.int .i64 t61,.int .i64 n78,.list false ls79]∧
 ∃l64,
 (lkV l'58 1)=
 (lkV l64 1)∧
 l'58.6=l64.6∧
 LOk l64∧
 ArgL [V.agg [.int .i64 t61,.int .i64 n78,.list false ls79]]∧
 List.length [V.agg [.int .i64 t61,.int .i64 n78,.list false ls79]]≤100000∧
 ∀(q65:Int×Int),
 q65=srcLast l64 (0,0) [V.agg [.int .i64 t61,.int .i64 n78,.list false ls79]]→
 ∀(l'67:LK),
 l'67=srcL l64 [V.agg [.int .i64 t61,.int .i64 n78,.list false ls79]]→
 ∃l69,
 (lkV l'67 1)=
 (lkV l69 1)∧
 l'67.6=l69.6∧
 Int.ofNat 0≤1∧
 (1:Int)<↑(List.length l69.3)∧
 ∃t70 n40 ls88,
 getV l69.3 1=V.agg [.int .i64 t70,.int .i64 n40,.list false ls88]∧
 ∀(x73:Bool),
 x73=decide (n40>2)→
 (x73=true→
 ∃l76,
 (lkV l'67 1)=
 (lkV l76 1)∧
 l'67.6=l76.6∧
 Int.ofNat 0≤0∧
 (0:Int)<↑(List.length l76.3)∧
 ∃t77 n95 ls96,
 getV l76.3 0=V.agg [.int .i64 t77,.int .i64 n95,.list false ls96]∧
 1=List.length [V.int .i64 n95]∧
 ∃l80,
 (lkV l'67 1)=
 (lkV l80 1)∧
 l'67.6=l80.6∧
 LOk l80∧
 NLs [V.int .i64 n95]∧
 List.length [V.int .i64 n95]≤1000∧
 List.length l80.6≤5000∧
 ∃f81:Nat→Int×Int,
 (arrF 16 (FS.f (LK.o l'67)))=
 (arrF 16 f81)∧
 ∀(l'82:LK),
 l'82=edgeL l80 ⟨f81,(LK.o l'67).2,(LK.o l'67).3,(LK.o l'67).4,(LK.o l'67).5⟩ [V.int .i64 n95]→
 ∃l84,
 (lkV l'82 1)=
 (lkV l84 1)∧
 l'82.6=l84.6∧
 LOk l84∧
 ∀(l'85:LK),
 l'85=dstL l84 n9005 n8 1 (-1)→
 r=V.tup []∧
 ks=
 [⟨none,false,(lkV l'85 1)⟩,
 ⟨some 79,false,V.agg l'85.6⟩])∧
 (x73=false→
 ∃l88,
 (lkV l'67 1)=
 (lkV l88 1)∧
 l'67.6=l88.6∧
 Int.ofNat 0≤0∧
 (0:Int)<↑(List.length l88.3)∧
 ∃t89 n107 ls108,
 getV l88.3 0=V.agg [.int .i64 t89,.int .i64 n107,.list false ls108]∧
 1=List.length [V.int .i64 n107]∧
 ∃l92,
 (lkV l'67 1)=
 (lkV l92 1)∧
 l'67.6=l92.6∧
 LOk l92∧
 NLs [V.int .i64 n107]∧
 List.length [V.int .i64 n107]≤1000∧
 List.length l92.6≤5000∧
 ∃f93:Nat→Int×Int,
 (arrF 16 (FS.f (LK.o l'67)))=
 (arrF 16 f93)∧
 ∀(l'94:LK),
 l'94=edgeL l92 ⟨f93,(LK.o l'67).2,(LK.o l'67).3,(LK.o l'67).4,(LK.o l'67).5⟩ [V.int .i64 n107]→
 ∃l96,
 (lkV l'94 1)=
 (lkV l96 1)∧
 l'94.6=l96.6∧
 LOk l96∧
 ∀(l'97:LK),
 l'97=dstL l96 n9005 n8 127 (-1)→
 r=V.tup []∧
 ks=
 [⟨none,false,(lkV l'97 1)⟩,
 ⟨some 79,false,V.agg l'97.6⟩]))∧
 (x50=false→
 ∃l100,
 (lkV l 1)=
 (lkV l100 1)∧
 l.6=l100.6∧
 Int.ofNat 0≤1∧
 (1:Int)<↑(List.length l100.3)∧
 ∃t101 n9102 ls9103,
 getV l100.3 1=V.agg [.int .i64 t101,.int .i64 n9102,.list false ls9103]∧
 ∀(x104:Bool),
 x104=(n9102==1)→
 ∃l106,
 (lkV l 1)=
 (lkV l106 1)∧
 l.6=l106.6∧
 ∀(l'107:LK),
 l'107=zW l106 x104→
 ∃l109,
 (lkV l'107 1)=
 (lkV l109 1)∧
 l'107.6=l109.6∧
 Int.ofNat 0≤2∧
 (2:Int)<↑(List.length l109.3)∧
 ∃t110 n9111 ls9112,
 getV l109.3 2=V.agg [.int .i64 t110,.int .i64 n9111,.list false ls9112]∧
 ∃l113,
 (lkV l'107 1)=
 (lkV l113 1)∧
 l'107.6=l113.6∧
 Int.ofNat 0≤3∧
 (3:Int)<↑(List.length l113.3)∧
 ∃t114 n9115 ls9116,
 getV l113.3 3=V.agg [.int .i64 t114,.int .i64 n9115,.list false ls9116]∧
 ∃l117,
 (lkV l'107 1)=
 (lkV l117 1)∧
 l'107.6=l117.6∧
 LOk l117∧
 ArgL [V.agg [.int .i64 t110,.int .i64 n9111,.list false ls9112],V.agg [.int .i64 t114,.int .i64 n9115,.list false ls9116]]∧
 List.length [V.agg [.int .i64 t110,.int .i64 n9111,.list false ls9112],V.agg [.int .i64 t114,.int .i64 n9115,.list false ls9116]]≤100000∧
 ∀(q118:Int×Int),
 q118=srcLast l117 (0,0) [V.agg [.int .i64 t110,.int .i64 n9111,.list false ls9112],V.agg [.int .i64 t114,.int .i64 n9115,.list false ls9116]]→
 ∀(l'120:LK),
 l'120=srcL l117 [V.agg [.int .i64 t110,.int .i64 n9111,.list false ls9112],V.agg [.int .i64 t114,.int .i64 n9115,.list false ls9116]]→
 ∃l122,
 (lkV l'120 1)=
 (lkV l122 1)∧
 l'120.6=l122.6∧
 Int.ofNat 0≤0∧
 (0:Int)<↑(List.length l122.3)∧
 ∃t123 n9124 ls9125,
 getV l122.3 0=V.agg [.int .i64 t123,.int .i64 n9124,.list false ls9125]∧
 1=List.length [V.int .i64 n9124]∧
 ∃l126,
 (lkV l'120 1)=
 (lkV l126 1)∧
 l'120.6=l126.6∧
 LOk l126∧
 NLs [V.int .i64 n9124]∧
 List.length [V.int .i64 n9124]≤1000∧
 List.length l126.6≤5000∧
 ∃f127:Nat→Int×Int,
 (arrF 16 (FS.f (LK.o l'120)))=
 (arrF 16 f127)∧
 ∀(l'128:LK),
 l'128=edgeL l126 ⟨f127,(LK.o l'120).2,(LK.o l'120).3,(LK.o l'120).4,(LK.o l'120).5⟩ [V.int .i64 n9124]→
 ∃l130,
 (lkV l'128 1)=
 (lkV l130 1)∧
 l'128.6=l130.6∧
 LOk l130∧
 ∀(l'131:LK),
 l'131=dstL l130 n9005 n8 127 (-1)→
 r=V.tup []∧
 ks=
 [⟨none,false,(lkV l'131 1)⟩,
 ⟨some 79,false,V.agg l'131.6⟩]))):=by kernel_rfl
theorem n53 (l:LK) (r:V) (ks:List Blk):wC Try.prog sp53 141 zB (zN Try.f53) noLs 0 (zC Try.f53) 1000 (zL [.ptr 0 0 []] 0) [(0,⟨none,false,lkV l 1⟩),(1,⟨some 79,false,.agg l.es⟩)] (finQ Try.prog [] none Try.f53.results.toList [0,1] fun v bs=>r=v∧ks=bs)=(
 ∀(x0:Bool),
 x0=(l.2==38)→
 (x0=true→
 ∃l3,
 (lkV l 1)=
 (lkV l3 1)∧
 l.6=l3.6∧
 Int.ofNat 0≤1∧
 (1:Int)<↑(List.length l3.3)∧
 ∃t4 n9005 ls8,
 getV l3.3 1=V.agg [.int .i64 t4,.int .i64 n9005,.list false ls8]∧
 ∃l7,
 (lkV l 1)=
 (lkV l7 1)∧
 l.6=l7.6∧
 LOk l7∧
 ArgL [V.agg [.int .i64 t4,.int .i64 n9005,.list false ls8]]∧
 List.length [V.agg [.int .i64 t4,.int .i64 n9005,.list false ls8]]≤100000∧
 ∀(q8:Int×Int),
 q8=srcLast l7 (0,0) [V.agg [.int .i64 t4,.int .i64 n9005,.list false ls8]]→
 ∀(l'10:LK),
 l'10=srcL l7 [V.agg [.int .i64 t4,.int .i64 n9005,.list false ls8]]→
 ∃l12,
 (lkV l'10 1)=
 (lkV l12 1)∧
 l'10.6=l12.6∧
 Int.ofNat 0≤1∧
 (1:Int)<↑(List.length l12.3)∧
 ∃t13 n9014 ls75,
 getV l12.3 1=V.agg [.int .i64 t13,.int .i64 n9014,.list false ls75]∧
 ∀(x16:Bool),
 x16=(t13 != 3)→
 (x16=true→
 ∃l19,
 (lkV l'10 1)=
 (lkV l19 1)∧
 l'10.6=l19.6∧
 ∀(l'20:LK),
 l'20=zW l19 true→
 ∃l22,
 (lkV l'20 1)=
 (lkV l22 1)∧
 l'20.6=l22.6∧
 Int.ofNat 0≤2∧
 (2:Int)<↑(List.length l22.3)∧
 ∃t23 n9024 ls9025,
 getV l22.3 2=V.agg [.int .i64 t23,.int .i64 n9024,.list false ls9025]∧
 ∃l26,
 (lkV l'20 1)=
 (lkV l26 1)∧
 l'20.6=l26.6∧
 LOk l26∧
 ∀(l'27:LK),
 l'27=liveL l26 n9024→
 ∃l29,
 (lkV l'27 1)=
 (lkV l29 1)∧
 l'27.6=l29.6∧
 Int.ofNat 0≤0∧
 (0:Int)<↑(List.length l29.3)∧
 ∃t30 n44 ls45,
 getV l29.3 0=V.agg [.int .i64 t30,.int .i64 n44,.list false ls45]∧
 1=List.length [V.int .i64 n44]∧
 ∃l33,
 (lkV l'27 1)=
 (lkV l33 1)∧
 l'27.6=l33.6∧
 LOk l33∧
 NLs [V.int .i64 n44]∧
 List.length [V.int .i64 n44]≤1000∧
 List.length l33.6≤5000∧
 ∃f34:Nat→Int×Int,
 (arrF 16 (FS.f (LK.o l'27)))=
 (arrF 16 f34)∧
 ∀(l'35:LK),
 l'35=edgeL l33 ⟨f34,(LK.o l'27).2,(LK.o l'27).3,(LK.o l'27).4,(LK.o l'27).5⟩ [V.int .i64 n44]→
 ∃l37,
 (lkV l'35 1)=
 (lkV l37 1)∧
 l'35.6=l37.6∧
 Int.ofNat 0≤3∧
 (3:Int)<↑(List.length l37.3)∧
 ∃t38 n52 ls53,
 getV l37.3 3=V.agg [.int .i64 t38,.int .i64 n52,.list false ls53]∧
 ∃l41,
 (lkV l'35 1)=
 (lkV l41 1)∧
 l'35.6=l41.6∧
 LOk l41∧
 ∀(l'42:LK),
 l'42=dstL l41 t38 n52 128 (-1)→
 r=V.tup []∧
 ks=
 [⟨none,false,(lkV l'42 1)⟩,
 ⟨some 79,false,V.agg l'42.6⟩])∧
 (x16=false→
 ∃l45,
 (lkV l'10 1)=
 (lkV l45 1)∧
 l'10.6=l45.6∧
 Int.ofNat 0≤1∧
 (1:Int)<↑(List.length l45.3)∧
 ∃t46 n61 ls62,
 getV l45.3 1=V.agg [.int .i64 t46,.int .i64 n61,.list false ls62]∧
 ∃l49,
 (lkV l'10 1)=
 (lkV l49 1)∧
 l'10.6=l49.6∧
 Int.ofNat 0≤2∧
 (2:Int)<↑(List.length l49.3)∧
 ∃t50 n92 ls66,
 getV l49.3 2=V.agg [.int .i64 t50,.int .i64 n92,.list false ls66]∧
 ∀(x53:Bool),
 x53=decide (n61<n92)→
 ∃l55,
 (lkV l'10 1)=
 (lkV l55 1)∧
 l'10.6=l55.6∧
 ∀(l'56:LK),
 l'56=zW l55 x53→
 ∃l58,
 (lkV l'56 1)=
 (lkV l58 1)∧
 l'56.6=l58.6∧
 Int.ofNat 0≤2∧
 (2:Int)<↑(List.length l58.3)∧
 ∃t59 n76 ls77,
 getV l58.3 2=V.agg [.int .i64 t59,.int .i64 n76,.list false ls77]∧
 ∃l62,
 (lkV l'56 1)=
 (lkV l62 1)∧
 l'56.6=l62.6∧
 LOk l62∧
 ∀(l'63:LK),
 l'63=liveL l62 n76→
 ∃l65,
 (lkV l'63 1)=
 (lkV l65 1)∧
 l'63.6=l65.6∧
 Int.ofNat 0≤0∧
 (0:Int)<↑(List.length l65.3)∧
 ∃t66 n83 ls84,
 getV l65.3 0=V.agg [.int .i64 t66,.int .i64 n83,.list false ls84]∧
 1=List.length [V.int .i64 n83]∧
 ∃l69,
 (lkV l'63 1)=
 (lkV l69 1)∧
 l'63.6=l69.6∧
 LOk l69∧
 NLs [V.int .i64 n83]∧
 List.length [V.int .i64 n83]≤1000∧
 List.length l69.6≤5000∧
 ∃f70:Nat→Int×Int,
 (arrF 16 (FS.f (LK.o l'63)))=
 (arrF 16 f70)∧
 ∀(l'71:LK),
 l'71=edgeL l69 ⟨f70,(LK.o l'63).2,(LK.o l'63).3,(LK.o l'63).4,(LK.o l'63).5⟩ [V.int .i64 n83]→
 ∃l73,
 (lkV l'71 1)=
 (lkV l73 1)∧
 l'71.6=l73.6∧
 Int.ofNat 0≤3∧
 (3:Int)<↑(List.length l73.3)∧
 ∃t74 n91 ls93,
 getV l73.3 3=V.agg [.int .i64 t74,.int .i64 n91,.list false ls93]∧
 ∃l77,
 (lkV l'71 1)=
 (lkV l77 1)∧
 l'71.6=l77.6∧
 LOk l77∧
 ∀(l'78:LK),
 l'78=dstL l77 t74 n91 128 (-1)→
 r=V.tup []∧
 ks=
 [⟨none,false,(lkV l'78 1)⟩,
 ⟨some 79,false,V.agg l'78.6⟩]))∧
 (x0=false→
 ∀(x81:Bool),
 x81=(l.2==39)→
 (x81=true→
 ∃l84,
 (lkV l 1)=
 (lkV l84 1)∧
 l.6=l84.6∧
 Int.ofNat 0≤1∧
 (1:Int)<↑(List.length l84.3)∧
 ∃t85 n103 ls104,
 getV l84.3 1=V.agg [.int .i64 t85,.int .i64 n103,.list false ls104]∧
 ∃l88,
 (lkV l 1)=
 (lkV l88 1)∧
 l.6=l88.6∧
 LOk l88∧
 ∀(l'89:LK),
 l'89=zW l88 ((whatK l88 t85 n103).1==128)→
 ∃l91,
 (lkV l'89 1)=
 (lkV l91 1)∧
 l'89.6=l91.6∧
 Int.ofNat 0≤2∧
 (2:Int)<↑(List.length l91.3)∧
 ∃t92 n110 ls111,
 getV l91.3 2=V.agg [.int .i64 t92,.int .i64 n110,.list false ls111]∧
 ∃l95,
 (lkV l'89 1)=
 (lkV l95 1)∧
 l'89.6=l95.6∧
 ∀(l'96:LK),
 l'96=zW l95 (betw n110 1 7)→
 ∃l98,
 (lkV l'96 1)=
 (lkV l98 1)∧
 l'96.6=l98.6∧
 Int.ofNat 0≤0∧
 (0:Int)<↑(List.length l98.3)∧
 ∃t99 n9100 ls9101,
 getV l98.3 0=V.agg [.int .i64 t99,.int .i64 n9100,.list false ls9101]∧
 1=List.length [V.int .i64 n9100]∧
 ∃l102,
 (lkV l'96 1)=
 (lkV l102 1)∧
 l'96.6=l102.6∧
 LOk l102∧
 NLs [V.int .i64 n9100]∧
 List.length [V.int .i64 n9100]≤1000∧
 List.length l102.6≤5000∧
 ∃f103:Nat→Int×Int,
 (arrF 16 (FS.f (LK.s l'96)))=
 (arrF 16 f103)∧
 ∀(l'104:LK),
 l'104=edgeL l102 ⟨f103,(LK.s l'96).2,(LK.s l'96).3,(LK.s l'96).4,(LK.s l'96).5⟩ [V.int .i64 n9100]→
 ∃l106,
 (lkV l'104 1)=
 (lkV l106 1)∧
 l'104.6=l106.6∧
 Int.ofNat 0≤3∧
 (3:Int)<↑(List.length l106.3)∧
 ∃t107 n9108 ls9109,
 getV l106.3 3=V.agg [.int .i64 t107,.int .i64 n9108,.list false ls9109]∧
 ∃l110,
 (lkV l'104 1)=
 (lkV l110 1)∧
 l'104.6=l110.6∧
 LOk l110∧
 ∀(l'111:LK),
 l'111=dstL l110 t107 n9108 1 (-1)→
 r=V.tup []∧
 ks=
 [⟨none,false,(lkV l'111 1)⟩,
 ⟨some 79,false,V.agg l'111.6⟩])∧
 (x81=false→
 ∀(x114:Bool),
 x114=(l.2==40)→
 (x114=true→
 ∃l117,
 (lkV l 1)=
 (lkV l117 1)∧
 l.6=l117.6∧
 Int.ofNat 0≤1∧
 (1:Int)<↑(List.length l117.3)∧
 ∃t118 n9119 ls9120,
 getV l117.3 1=V.agg [.int .i64 t118,.int .i64 n9119,.list false ls9120]∧
 ∃l121,
 (lkV l 1)=
 (lkV l121 1)∧
 l.6=l121.6∧
 LOk l121∧
 ∀(l'122:LK),
 l'122=zW l121 ((whatK l121 t118 n9119).1==128)→
 ∃l124,
 (lkV l'122 1)=
 (lkV l124 1)∧
 l'122.6=l124.6∧
 Int.ofNat 0≤1∧
 (1:Int)<↑(List.length l124.3)∧
 ∃t125 n9126 ls9127,
 getV l124.3 1=V.agg [.int .i64 t125,.int .i64 n9126,.list false ls9127]∧
 ∃l128,
 (lkV l'122 1)=
 (lkV l128 1)∧
 l'122.6=l128.6∧
 Int.ofNat 0≤3∧
 (3:Int)<↑(List.length l128.3)∧
 ∃t129 n9130 ls9131,
 getV l128.3 3=V.agg [.int .i64 t129,.int .i64 n9130,.list false ls9131]∧
 ∀(x132:Bool),
 x132=decide (n9126<n9130)→
 (x132=true→
 ∃l135,
 (lkV l'122 1)=
 (lkV l135 1)∧
 l'122.6=l135.6∧
 Int.ofNat 0≤2∧
 (2:Int)<↑(List.length l135.3)∧
 ∃t136 n9137 ls9138,
 getV l135.3 2=V.agg [.int .i64 t136,.int .i64 n9137,.list false ls9138]∧
 ∀(x139:Bool),
 x139=decide (n9137≤400)→
 ∃l141,
 (lkV l'122 1)=
 (lkV l141 1)∧
 l'122.6=l141.6∧
 ∀(l'142:LK),
 l'142=zW l141 x139→
 ∃l144,
 (lkV l'142 1)=
 (lkV l144 1)∧
 l'142.6=l144.6∧
 Int.ofNat 0≤3∧
 (3:Int)<↑(List.length l144.3)∧
 ∃t145 n9146 ls9147,
 getV l144.3 3=V.agg [.int .i64 t145,.int .i64 n9146,.list false ls9147]∧
 ∃l148,
 (lkV l'142 1)=
 (lkV l148 1)∧
 l'142.6=l148.6∧
 LOk l148∧
 ∀(l'149:LK),
 l'149=liveL l148 n9146→
 ∃l151,
 (lkV l'149 1)=
 (lkV l151 1)∧
 l'149.6=l151.6∧
 Int.ofNat 0≤0∧
 (0:Int)<↑(List.length l151.3)∧
 ∃t152 n9153 ls9154,
 getV l151.3 0=V.agg [.int .i64 t152,.int .i64 n9153,.list false ls9154]∧
 1=List.length [V.int .i64 n9153]∧
 ∃l155,
 (lkV l'149 1)=
 (lkV l155 1)∧
 l'149.6=l155.6∧
 LOk l155∧
 NLs [V.int .i64 n9153]∧
 List.length [V.int .i64 n9153]≤1000∧
 List.length l155.6≤5000∧
 ∃f156:Nat→Int×Int,
 (arrF 16 (FS.f (LK.o l'149)))=
 (arrF 16 f156)∧
 ∀(l'157:LK),
 l'157=edgeL l155 ⟨f156,(LK.o l'149).2,(LK.o l'149).3,(LK.o l'149).4,(LK.o l'149).5⟩ [V.int .i64 n9153]→
 ∃l159,
 (lkV l'157 1)=
 (lkV l159 1)∧
 l'157.6=l159.6∧
 Int.ofNat 0≤4∧
 (4:Int)<↑(List.length l159.3)∧
 ∃t160 n9161 ls9162,
 getV l159.3 4=V.agg [.int .i64 t160,.int .i64 n9161,.list false ls9162]∧
 ∃l163,
 (lkV l'157 1)=
 (lkV l163 1)∧
 l'157.6=l163.6∧
 LOk l163∧
 ∀(l'164:LK),
 l'164=dstL l163 t160 n9161 32 (-1)→
 r=V.tup []∧
 ks=
 [⟨none,false,(lkV l'164 1)⟩,
 ⟨some 79,false,V.agg l'164.6⟩])∧
 (x132=false→
 ∃l167,
 (lkV l'122 1)=
 (lkV l167 1)∧
 l'122.6=l167.6∧
 ∀(l'168:LK),
 l'168=zW l167 false→
 ∃l170,
 (lkV l'168 1)=
 (lkV l170 1)∧
 l'168.6=l170.6∧
 Int.ofNat 0≤3∧
 (3:Int)<↑(List.length l170.3)∧
 ∃t171 n9172 ls9173,
 getV l170.3 3=V.agg [.int .i64 t171,.int .i64 n9172,.list false ls9173]∧
 ∃l174,
 (lkV l'168 1)=
 (lkV l174 1)∧
 l'168.6=l174.6∧
 LOk l174∧
 ∀(l'175:LK),
 l'175=liveL l174 n9172→
 ∃l177,
 (lkV l'175 1)=
 (lkV l177 1)∧
 l'175.6=l177.6∧
 Int.ofNat 0≤0∧
 (0:Int)<↑(List.length l177.3)∧
 ∃t178 n9179 ls9180,
 getV l177.3 0=V.agg [.int .i64 t178,.int .i64 n9179,.list false ls9180]∧
 1=List.length [V.int .i64 n9179]∧
 ∃l181,
 (lkV l'175 1)=
 (lkV l181 1)∧
 l'175.6=l181.6∧
 LOk l181∧
 NLs [V.int .i64 n9179]∧
 List.length [V.int .i64 n9179]≤1000∧
 List.length l181.6≤5000∧
 ∃f182:Nat→Int×Int,
 (arrF 16 (FS.f (LK.o l'175)))=
 (arrF 16 f182)∧
 ∀(l'183:LK),
 l'183=edgeL l181 ⟨f182,(LK.o l'175).2,(LK.o l'175).3,(LK.o l'175).4,(LK.o l'175).5⟩ [V.int .i64 n9179]→
 ∃l185,
 (lkV l'183 1)=
 (lkV l185 1)∧
 l'183.6=l185.6∧
 Int.ofNat 0≤4∧
 (4:Int)<↑(List.length l185.3)∧
 ∃t186 n9187 ls9188,
 getV l185.3 4=V.agg [.int .i64 t186,.int .i64 n9187,.list false ls9188]∧
 ∃l189,
 (lkV l'183 1)=
 (lkV l189 1)∧
 l'183.6=l189.6∧
 LOk l189∧
 ∀(l'190:LK),
 l'190=dstL l189 t186 n9187 32 (-1)→
 r=V.tup []∧
 ks=
 [⟨none,false,(lkV l'190 1)⟩,
 ⟨some 79,false,V.agg l'190.6⟩]))∧
 (x114=false→
 ∀(x193:Bool),
 x193=(l.2==41)→
 (x193=true→
 ∃l196,
 (lkV l 1)=
 (lkV l196 1)∧
 l.6=l196.6∧
 Int.ofNat 0≤0∧
 (0:Int)<↑(List.length l196.3)∧
 ∃t197 n9198 ls9199,
 getV l196.3 0=V.agg [.int .i64 t197,.int .i64 n9198,.list false ls9199]∧
 ∃l200,
 (lkV l 1)=
 (lkV l200 1)∧
 l.6=l200.6∧
 LOk l200∧
 ∀(l'201:LK),
 l'201=zW l200 ((whatK l200 t197 n9198).1==128)→
 ∃l203,
 (lkV l'201 1)=
 (lkV l203 1)∧
 l'201.6=l203.6∧
 Int.ofNat 0≤0∧
 (0:Int)<↑(List.length l203.3)∧
 ∃t204 n9205 ls9206,
 getV l203.3 0=V.agg [.int .i64 t204,.int .i64 n9205,.list false ls9206]∧
 ∃l207,
 (lkV l'201 1)=
 (lkV l207 1)∧
 l'201.6=l207.6∧
 Int.ofNat 0≤1∧
 (1:Int)<↑(List.length l207.3)∧
 ∃t208 n9209 ls9210,
 getV l207.3 1=V.agg [.int .i64 t208,.int .i64 n9209,.list false ls9210]∧
 ∀(x211:Bool),
 x211=decide (n9205<n9209)→
 ∃l213,
 (lkV l'201 1)=
 (lkV l213 1)∧
 l'201.6=l213.6∧
 ∀(l'214:LK),
 l'214=zW l213 x211→
 ∃l216,
 (lkV l'214 1)=
 (lkV l216 1)∧
 l'214.6=l216.6∧
 Int.ofNat 0≤1∧
 (1:Int)<↑(List.length l216.3)∧
 ∃t217 n9218 ls9219,
 getV l216.3 1=V.agg [.int .i64 t217,.int .i64 n9218,.list false ls9219]∧
 ∃l220,
 (lkV l'214 1)=
 (lkV l220 1)∧
 l'214.6=l220.6∧
 LOk l220∧
 ∀(l'221:LK),
 l'221=liveL l220 n9218→
 ∃l223,
 (lkV l'221 1)=
 (lkV l223 1)∧
 l'221.6=l223.6∧
 Int.ofNat 0≤2∧
 (2:Int)<↑(List.length l223.3)∧
 ∃t224 n9225 ls9226,
 getV l223.3 2=V.agg [.int .i64 t224,.int .i64 n9225,.list false ls9226]∧
 ∃l227,
 (lkV l'221 1)=
 (lkV l227 1)∧
 l'221.6=l227.6∧
 LOk l227∧
 ∀(l'228:LK),
 l'228=dstL l227 t224 n9225 32 (-1)→
 r=V.tup []∧
 ks=
 [⟨none,false,(lkV l'228 1)⟩,
 ⟨some 79,false,V.agg l'228.6⟩])∧
 (x193=false→
 ∃l231,
 (lkV l 1)=
 (lkV l231 1)∧
 l.6=l231.6∧
 Int.ofNat 0≤1∧
 (1:Int)<↑(List.length l231.3)∧
 ∃t232 n9233 ls9234,
 getV l231.3 1=V.agg [.int .i64 t232,.int .i64 n9233,.list false ls9234]∧
 ∃l235,
 (lkV l 1)=
 (lkV l235 1)∧
 l.6=l235.6∧
 LOk l235∧
 ∀(l'236:LK),
 l'236=zW l235 ((whatK l235 t232 n9233).1==128)→
 ∃l238,
 (lkV l'236 1)=
 (lkV l238 1)∧
 l'236.6=l238.6∧
 Int.ofNat 0≤0∧
 (0:Int)<↑(List.length l238.3)∧
 ∃t239 n9240 ls9241,
 getV l238.3 0=V.agg [.int .i64 t239,.int .i64 n9240,.list false ls9241]∧
 1=List.length [V.int .i64 n9240]∧
 ∃l242,
 (lkV l'236 1)=
 (lkV l242 1)∧
 l'236.6=l242.6∧
 LOk l242∧
 NLs [V.int .i64 n9240]∧
 List.length [V.int .i64 n9240]≤1000∧
 List.length l242.6≤5000∧
 ∃f243:Nat→Int×Int,
 (arrF 16 (FS.f (LK.s l'236)))=
 (arrF 16 f243)∧
 ∀(l'244:LK),
 l'244=edgeL l242 ⟨f243,(LK.s l'236).2,(LK.s l'236).3,(LK.s l'236).4,(LK.s l'236).5⟩ [V.int .i64 n9240]→
 r=V.tup []∧
 ks=
 [⟨none,false,(lkV l'244 1)⟩,
 ⟨some 79,false,V.agg l'244.6⟩]))))):=by kernel_rfl
theorem n55 (l:LK) (r:V) (ks:List Blk):wC Try.prog sp55 190 zB (zN Try.f55) noLs 0 (zC Try.f55) 1000 (zL [.ptr 0 0 []] 0) [(0,⟨none,false,lkV l 1⟩),(1,⟨some 79,false,.agg l.es⟩)] (finQ Try.prog [] none Try.f55.results.toList [0,1] fun v bs=>r=v∧ks=bs)=(
 ∀(x0:Bool),
 x0=(l.2==4)→
 (x0=true→
 ∃l3,
 (lkV l 1)=
 (lkV l3 1)∧
 l.6=l3.6∧
 Int.ofNat 0≤1∧
 (1:Int)<↑(List.length l3.3)∧
 ∃t4 n9005 ls8,
 getV l3.3 1=V.agg [.int .i64 t4,.int .i64 n9005,.list false ls8]∧
 ∃l7,
 (lkV l 1)=
 (lkV l7 1)∧
 l.6=l7.6∧
 Int.ofNat 0≤0∧
 (0:Int)<↑(List.length l7.3)∧
 ∃t8 n6 ls22,
 getV l7.3 0=V.agg [.int .i64 t8,.int .i64 n6,.list false ls22]∧
 ∃l11,
 (lkV l 1)=
 (lkV l11 1)∧
 l.6=l11.6∧
 LOk l11∧
 ArgL [V.agg [.int .i64 t8,.int .i64 n6,.list false ls22]]∧
 List.length [V.agg [.int .i64 t8,.int .i64 n6,.list false ls22]]≤100000∧
 ∀(q12:Int×Int),
 q12=srcLast l11 (0,0) [V.agg [.int .i64 t8,.int .i64 n6,.list false ls22]]→
 ∀(l'14:LK),
 l'14=srcL l11 [V.agg [.int .i64 t8,.int .i64 n6,.list false ls22]]→
 ∃l16,
 (lkV l'14 1)=
 (lkV l16 1)∧
 l'14.6=l16.6∧
 LOk l16∧
 ∀(l'17:LK),
 l'17=dstL l16 t4 n9005 q12.1 q12.2→
 r=V.tup []∧
 ks=
 [⟨none,false,(lkV l'17 1)⟩,
 ⟨some 79,false,V.agg l'17.6⟩])∧
 (x0=false→
 ∀(x20:Bool),
 x20=(l.2==34)→
 (x20=true→
 ∃l23,
 (lkV l 1)=
 (lkV l23 1)∧
 l.6=l23.6∧
 Int.ofNat 0≤0∧
 (0:Int)<↑(List.length l23.3)∧
 ∃t24 n9025 ls72,
 getV l23.3 0=V.agg [.int .i64 t24,.int .i64 n9025,.list false ls72]∧
 ∃l27,
 (lkV l 1)=
 (lkV l27 1)∧
 l.6=l27.6∧
 LOk l27∧
 ArgL [V.agg [.int .i64 t24,.int .i64 n9025,.list false ls72]]∧
 List.length [V.agg [.int .i64 t24,.int .i64 n9025,.list false ls72]]≤100000∧
 ∀(q28:Int×Int),
 q28=srcLast l27 (0,0) [V.agg [.int .i64 t24,.int .i64 n9025,.list false ls72]]→
 ∀(l'30:LK),
 l'30=srcL l27 [V.agg [.int .i64 t24,.int .i64 n9025,.list false ls72]]→
 ∃l32,
 (lkV l'30 1)=
 (lkV l32 1)∧
 l'30.6=l32.6∧
 Int.ofNat 0≤1∧
 (1:Int)<↑(List.length l32.3)∧
 ∃t33 n47 ls48,
 getV l32.3 1=V.agg [.int .i64 t33,.int .i64 n47,.list false ls48]∧
 ∃l36,
 (lkV l'30 1)=
 (lkV l36 1)∧
 l'30.6=l36.6∧
 LOk l36∧
 ArgL [V.agg [.int .i64 t33,.int .i64 n47,.list false ls48]]∧
 List.length [V.agg [.int .i64 t33,.int .i64 n47,.list false ls48]]≤100000∧
 ∀(q37:Int×Int),
 q37=srcLast l36 (0,0) [V.agg [.int .i64 t33,.int .i64 n47,.list false ls48]]→
 ∀(l'39:LK),
 l'39=srcL l36 [V.agg [.int .i64 t33,.int .i64 n47,.list false ls48]]→
 ∃l41,
 (lkV l'39 1)=
 (lkV l41 1)∧
 l'39.6=l41.6∧
 Int.ofNat 0≤0∧
 (0:Int)<↑(List.length l41.3)∧
 ∃t42 n56 ls57,
 getV l41.3 0=V.agg [.int .i64 t42,.int .i64 n56,.list false ls57]∧
 ∃l45,
 (lkV l'39 1)=
 (lkV l45 1)∧
 l'39.6=l45.6∧
 LOk l45∧
 ∀(l'46:LK),
 l'46=dstL l45 t42 n56 q37.1 q37.2→
 ∃l48,
 (lkV l'46 1)=
 (lkV l48 1)∧
 l'46.6=l48.6∧
 Int.ofNat 0≤1∧
 (1:Int)<↑(List.length l48.3)∧
 ∃t49 n63 ls92,
 getV l48.3 1=V.agg [.int .i64 t49,.int .i64 n63,.list false ls92]∧
 ∃l52,
 (lkV l'46 1)=
 (lkV l52 1)∧
 l'46.6=l52.6∧
 LOk l52∧
 ∀(l'53:LK),
 l'53=dstL l52 t49 n63 q28.1 q28.2→
 r=V.tup []∧
 ks=
 [⟨none,false,(lkV l'53 1)⟩,
 ⟨some 79,false,V.agg l'53.6⟩])∧
 (x20=false→
 ∀(x56:Bool),
 x56=(l.2==17)→
 (x56=true→
 ∃l59,
 (lkV l 1)=
 (lkV l59 1)∧
 l.6=l59.6∧
 Int.ofNat 0≤0∧
 (0:Int)<↑(List.length l59.3)∧
 ∃t60 n77 ls78,
 getV l59.3 0=V.agg [.int .i64 t60,.int .i64 n77,.list false ls78]∧
 ∃l63,
 (lkV l 1)=
 (lkV l63 1)∧
 l.6=l63.6∧
 Int.ofNat 0≤1∧
 (1:Int)<↑(List.length l63.3)∧
 ∃t64 n81 ls82,
 getV l63.3 1=V.agg [.int .i64 t64,.int .i64 n81,.list false ls82]∧
 ∃l67,
 (lkV l 1)=
 (lkV l67 1)∧
 l.6=l67.6∧
 LOk l67∧
 ArgL [V.agg [.int .i64 t60,.int .i64 n77,.list false ls78],V.agg [.int .i64 t64,.int .i64 n81,.list false ls82]]∧
 List.length [V.agg [.int .i64 t60,.int .i64 n77,.list false ls78],V.agg [.int .i64 t64,.int .i64 n81,.list false ls82]]≤100000∧
 ∀(q68:Int×Int),
 q68=srcLast l67 (0,0) [V.agg [.int .i64 t60,.int .i64 n77,.list false ls78],V.agg [.int .i64 t64,.int .i64 n81,.list false ls82]]→
 ∀(l'70:LK),
 l'70=srcL l67 [V.agg [.int .i64 t60,.int .i64 n77,.list false ls78],V.agg [.int .i64 t64,.int .i64 n81,.list false ls82]]→
 ∃l72,
 (lkV l'70 1)=
 (lkV l72 1)∧
 l'70.6=l72.6∧
 ∀(l'73:LK),
 l'73=takeL l72 2→
 ∃l75,
 (lkV l'73 1)=
 (lkV l75 1)∧
 l'73.6=l75.6∧
 Int.ofNat 0≤2∧
 (2:Int)<↑(List.length l75.3)∧
 ∃t76 n94 ls95,
 getV l75.3 2=V.agg [.int .i64 t76,.int .i64 n94,.list false ls95]∧
 ∃l79,
 (lkV l'73 1)=
 (lkV l79 1)∧
 l'73.6=l79.6∧
 LOk l79∧
 ∀(l'80:LK),
 l'80=dstL l79 t76 n94 8 (-1)→
 r=V.tup []∧
 ks=
 [⟨none,false,(lkV l'80 1)⟩,
 ⟨some 79,false,V.agg l'80.6⟩])∧
 (x56=false→
 ∀(x83:Bool),
 x83=(l.2==18)→
 (x83=true→
 ∃l86,
 (lkV l 1)=
 (lkV l86 1)∧
 l.6=l86.6∧
 Int.ofNat 0≤0∧
 (0:Int)<↑(List.length l86.3)∧
 ∃t87 n105 ls106,
 getV l86.3 0=V.agg [.int .i64 t87,.int .i64 n105,.list false ls106]∧
 ∃l90,
 (lkV l 1)=
 (lkV l90 1)∧
 l.6=l90.6∧
 LOk l90∧
 ArgL ls106∧
 List.length ls106≤100000∧
 ∀(q91:Int×Int),
 q91=srcLast l90 (0,0) ls106→
 ∀(l'93:LK),
 l'93=srcL l90 ls106→
 List.length ls106≤9223372036854775807→
 ∀(x96:Int),
 x96=↑(List.length ls106)→
 ∀(x98:Int),
 x98=IntKind.wrap .i64 (1+x96)→
 ∃l100,
 (lkV l'93 1)=
 (lkV l100 1)∧
 l'93.6=l100.6∧
 ∀(l'101:LK),
 l'101=takeL l100 x98→
 ∃l103,
 (lkV l'101 1)=
 (lkV l103 1)∧
 l'101.6=l103.6∧
 Int.ofNat 0≤1∧
 (1:Int)<↑(List.length l103.3)∧
 ∃t104 n9105 ls9106,
 getV l103.3 1=V.agg [.int .i64 t104,.int .i64 n9105,.list false ls9106]∧
 (List.length ls106≤9223372036854775807→
 ∀(x108:Int),
 x108=↑(List.length ls106)→
 ∃l110,
 (lkV l'101 1)=
 (lkV l110 1)∧
 l'101.6=l110.6∧
 LOk l110∧
 ∀(l'111:LK),
 l'111=dstL l110 t104 n9105 16 x108→
 r=V.tup []∧
 ks=
 [⟨none,false,(lkV l'111 1)⟩,
 ⟨some 79,false,V.agg l'111.6⟩]))∧
 (x83=false→
 ∀(x114:Bool),
 x114=(l.2==19)→
 (x114=true→
 ∃l117,
 (lkV l 1)=
 (lkV l117 1)∧
 l.6=l117.6∧
 Int.ofNat 0≤0∧
 (0:Int)<↑(List.length l117.3)∧
 ∃t118 n9119 ls9120,
 getV l117.3 0=V.agg [.int .i64 t118,.int .i64 n9119,.list false ls9120]∧
 ∃l121,
 (lkV l 1)=
 (lkV l121 1)∧
 l.6=l121.6∧
 LOk l121∧
 ∀(q122:Int×Int),
 q122=whatK l121 t118 n9119→
 ∀(x124:Bool),
 x124=(q122.1==8)→
 ∃l126,
 (lkV l 1)=
 (lkV l126 1)∧
 l.6=l126.6∧
 ∀(l'127:LK),
 l'127=zW l126 x124→
 ∃l129,
 (lkV l'127 1)=
 (lkV l129 1)∧
 l'127.6=l129.6∧
 Int.ofNat 0≤1∧
 (1:Int)<↑(List.length l129.3)∧
 ∃t130 n9131 ls9132,
 getV l129.3 1=V.agg [.int .i64 t130,.int .i64 n9131,.list false ls9132]∧
 ∃l133,
 (lkV l'127 1)=
 (lkV l133 1)∧
 l'127.6=l133.6∧
 LOk l133∧
 ∀(l'134:LK),
 l'134=dstL l133 t130 n9131 127 (-1)→
 ∃l136,
 (lkV l'134 1)=
 (lkV l136 1)∧
 l'134.6=l136.6∧
 Int.ofNat 0≤2∧
 (2:Int)<↑(List.length l136.3)∧
 ∃t137 n9138 ls9139,
 getV l136.3 2=V.agg [.int .i64 t137,.int .i64 n9138,.list false ls9139]∧
 ∃l140,
 (lkV l'134 1)=
 (lkV l140 1)∧
 l'134.6=l140.6∧
 LOk l140∧
 ∀(l'141:LK),
 l'141=dstL l140 t137 n9138 127 (-1)→
 r=V.tup []∧
 ks=
 [⟨none,false,(lkV l'141 1)⟩,
 ⟨some 79,false,V.agg l'141.6⟩])∧
 (x114=false→
 ∀(x144:Bool),
 x144=(l.2==20)→
 (x144=true→
 ∃l147,
 (lkV l 1)=
 (lkV l147 1)∧
 l.6=l147.6∧
 Int.ofNat 0≤0∧
 (0:Int)<↑(List.length l147.3)∧
 ∃t148 n9149 ls9150,
 getV l147.3 0=V.agg [.int .i64 t148,.int .i64 n9149,.list false ls9150]∧
 ∃l151,
 (lkV l 1)=
 (lkV l151 1)∧
 l.6=l151.6∧
 LOk l151∧
 ∀(q152:Int×Int),
 q152=whatK l151 t148 n9149→
 ∀(x154:Bool),
 x154=(q152.1==16)→
 (x154=true→
 ∃l157,
 (lkV l 1)=
 (lkV l157 1)∧
 l.6=l157.6∧
 Int.ofNat 0≤1∧
 (1:Int)<↑(List.length l157.3)∧
 ∃t158 n9159 ls9160,
 getV l157.3 1=V.agg [.int .i64 t158,.int .i64 n9159,.list false ls9160]∧
 ∀(x161:Bool),
 x161=decide (q152.2>n9159)→
 ∃l163,
 (lkV l 1)=
 (lkV l163 1)∧
 l.6=l163.6∧
 ∀(l'164:LK),
 l'164=zW l163 x161→
 ∃l166,
 (lkV l'164 1)=
 (lkV l166 1)∧
 l'164.6=l166.6∧
 Int.ofNat 0≤2∧
 (2:Int)<↑(List.length l166.3)∧
 ∃t167 n9168 ls9169,
 getV l166.3 2=V.agg [.int .i64 t167,.int .i64 n9168,.list false ls9169]∧
 ∃l170,
 (lkV l'164 1)=
 (lkV l170 1)∧
 l'164.6=l170.6∧
 LOk l170∧
 ∀(l'171:LK),
 l'171=dstL l170 t167 n9168 127 (-1)→
 r=V.tup []∧
 ks=
 [⟨none,false,(lkV l'171 1)⟩,
 ⟨some 79,false,V.agg l'171.6⟩])∧
 (x154=false→
 ∃l174,
 (lkV l 1)=
 (lkV l174 1)∧
 l.6=l174.6∧
 ∀(l'175:LK),
 l'175=zW l174 false→
 ∃l177,
 (lkV l'175 1)=
 (lkV l177 1)∧
 l'175.6=l177.6∧
 Int.ofNat 0≤2∧
 (2:Int)<↑(List.length l177.3)∧
 ∃t178 n9179 ls9180,
 getV l177.3 2=V.agg [.int .i64 t178,.int .i64 n9179,.list false ls9180]∧
 ∃l181,
 (lkV l'175 1)=
 (lkV l181 1)∧
 l'175.6=l181.6∧
 LOk l181∧
 ∀(l'182:LK),
 l'182=dstL l181 t178 n9179 127 (-1)→
 r=V.tup []∧
 ks=
 [⟨none,false,(lkV l'182 1)⟩,
 ⟨some 79,false,V.agg l'182.6⟩]))∧
 (x144=false→
 ∀(x185:Bool),
 x185=(l.2==43)→
 (x185=true→
 ∃l188,
 (lkV l 1)=
 (lkV l188 1)∧
 l.6=l188.6∧
 Int.ofNat 0≤1∧
 (1:Int)<↑(List.length l188.3)∧
 ∃t189 n9190 ls9191,
 getV l188.3 1=V.agg [.int .i64 t189,.int .i64 n9190,.list false ls9191]∧
 ∃l192,
 (lkV l 1)=
 (lkV l192 1)∧
 l.6=l192.6∧
 LOk l192∧
 ArgL ls9191∧
 List.length ls9191≤100000∧
 ∀(q193:Int×Int),
 q193=srcLast l192 (0,0) ls9191→
 ∀(l'195:LK),
 l'195=srcL l192 ls9191→
 ∃l197,
 (lkV l'195 1)=
 (lkV l197 1)∧
 l'195.6=l197.6∧
 Int.ofNat 0≤0∧
 (0:Int)<↑(List.length l197.3)∧
 ∃t198 n9199 ls9200,
 getV l197.3 0=V.agg [.int .i64 t198,.int .i64 n9199,.list false ls9200]∧
 ∃l201,
 (lkV l'195 1)=
 (lkV l201 1)∧
 l'195.6=l201.6∧
 LOk l201∧
 ∀(l'202:LK),
 l'202=liveL l201 n9199→
 ∃l204,
 (lkV l'202 1)=
 (lkV l204 1)∧
 l'202.6=l204.6∧
 Int.ofNat 0≤2∧
 (2:Int)<↑(List.length l204.3)∧
 ∃t205 n9206 ls9207,
 getV l204.3 2=V.agg [.int .i64 t205,.int .i64 n9206,.list false ls9207]∧
 ∃l208,
 (lkV l'202 1)=
 (lkV l208 1)∧
 l'202.6=l208.6∧
 LOk l208∧
 ∀(l'209:LK),
 l'209=dstL l208 t205 n9206 32 (-1)→
 r=V.tup []∧
 ks=
 [⟨none,false,(lkV l'209 1)⟩,
 ⟨some 79,false,V.agg l'209.6⟩])∧
 (x185=false→
 ∃l212,
 (lkV l 1)=
 (lkV l212 1)∧
 l.6=l212.6∧
 Int.ofNat 0≤1∧
 (1:Int)<↑(List.length l212.3)∧
 ∃t213 n9214 ls9215,
 getV l212.3 1=V.agg [.int .i64 t213,.int .i64 n9214,.list false ls9215]∧
 ∃l216,
 (lkV l 1)=
 (lkV l216 1)∧
 l.6=l216.6∧
 Int.ofNat 0≤0∧
 (0:Int)<↑(List.length l216.3)∧
 ∃t217 n9218 ls9219,
 getV l216.3 0=V.agg [.int .i64 t217,.int .i64 n9218,.list false ls9219]∧
 ∀(x220:Int),
 x220=↑(List.length (LK.m l).4)→
 ∀(x222:Bool),
 x222=decide (n9218<x220)→
 (x222=true→
 ∃l225,
 (lkV l 1)=
 (lkV l225 1)∧
 l.6=l225.6∧
 Int.ofNat 0≤0∧
 (0:Int)<↑(List.length l225.3)∧
 ∃t226 n9227 ls9228,
 getV l225.3 0=V.agg [.int .i64 t226,.int .i64 n9227,.list false ls9228]∧
 ∀(x229:Int),
 x229=↑(List.length (LK.m l).4)→
 ∀(x231:Int),
 x231=IntKind.wrap .i64 (x229-1)→
 ∀(z233:Int),
 (z233=if x231<n9227 then x231 else n9227)→
 0≤z233∧
 z233<↑(List.length (LK.m l).4)∧
 ∃n9235 n9236 n9237,
 getV (LK.m l).4 z233=V.agg [.int .i64 n9235,.int .i64 n9236,.int .i64 n9237]∧
 ∀(x238:Int),
 x238=↑(List.length ls9215)→
 ∀(x240:Bool),
 x240=(n9237==x238)→
 ∃l242,
 (lkV l 1)=
 (lkV l242 1)∧
 l.6=l242.6∧
 ∀(l'243:LK),
 l'243=zW l242 x240→
 ∃l245,
 (lkV l'243 1)=
 (lkV l245 1)∧
 l'243.6=l245.6∧
 LOk l245∧
 ArgL ls9215∧
 List.length ls9215≤100000∧
 ∀(q246:Int×Int),
 q246=srcLast l245 (0,0) ls9215→
 ∀(l'248:LK),
 l'248=srcL l245 ls9215→
 List.length ls9215≤9223372036854775807→
 ∀(x251:Int),
 x251=↑(List.length ls9215)→
 ∀(x253:Int),
 x253=IntKind.wrap .i64 (2+x251)→
 ∃l255,
 (lkV l'248 1)=
 (lkV l255 1)∧
 l'248.6=l255.6∧
 ∀(l'256:LK),
 l'256=takeL l255 x253→
 ∃l258,
 (lkV l'256 1)=
 (lkV l258 1)∧
 l'256.6=l258.6∧
 Int.ofNat 0≤2∧
 (2:Int)<↑(List.length l258.3)∧
 ∃t259 n9260 ls9261,
 getV l258.3 2=V.agg [.int .i64 t259,.int .i64 n9260,.list false ls9261]∧
 ∃l262,
 (lkV l'256 1)=
 (lkV l262 1)∧
 l'256.6=l262.6∧
 LOk l262∧
 ∀(l'263:LK),
 l'263=dstL l262 t259 n9260 64 (-1)→
 r=V.tup []∧
 ks=
 [⟨none,false,(lkV l'263 1)⟩,
 ⟨some 79,false,V.agg l'263.6⟩])∧
 (x222=false→
 ∃l266,
 (lkV l 1)=
 (lkV l266 1)∧
 l.6=l266.6∧
 ∀(l'267:LK),
 l'267=zW l266 false→
 ∃l269,
 (lkV l'267 1)=
 (lkV l269 1)∧
 l'267.6=l269.6∧
 LOk l269∧
 ArgL ls9215∧
 List.length ls9215≤100000∧
 ∀(q270:Int×Int),
 q270=srcLast l269 (0,0) ls9215→
 ∀(l'272:LK),
 l'272=srcL l269 ls9215→
 List.length ls9215≤9223372036854775807→
 ∀(x275:Int),
 x275=↑(List.length ls9215)→
 ∀(x277:Int),
 x277=IntKind.wrap .i64 (2+x275)→
 ∃l279,
 (lkV l'272 1)=
 (lkV l279 1)∧
 l'272.6=l279.6∧
 ∀(l'280:LK),
 l'280=takeL l279 x277→
 ∃l282,
 (lkV l'280 1)=
 (lkV l282 1)∧
 l'280.6=l282.6∧
 Int.ofNat 0≤2∧
 (2:Int)<↑(List.length l282.3)∧
 ∃t283 n9284 ls9285,
 getV l282.3 2=V.agg [.int .i64 t283,.int .i64 n9284,.list false ls9285]∧
 ∃l286,
 (lkV l'280 1)=
 (lkV l286 1)∧
 l'280.6=l286.6∧
 LOk l286∧
 ∀(l'287:LK),
 l'287=dstL l286 t283 n9284 64 (-1)→
 r=V.tup []∧
 ks=
 [⟨none,false,(lkV l'287 1)⟩,
 ⟨some 79,false,V.agg l'287.6⟩]))))))))):=by kernel_rfl
theorem n50 (l:LK) (r:V) (ks:List Blk):wC Try.prog sp50 145 zB (zN Try.f50) noLs 0 (zC Try.f50) 1000 (zL [.ptr 0 0 []] 0) [(0,⟨none,false,lkV l 1⟩),(1,⟨some 79,false,.agg l.es⟩)] (finQ Try.prog [(0,[3])] none Try.f50.results.toList [0,1] fun v bs=>r=v∧ks=bs)=(
 ∃l0,
 (lkV l 1)=
 (lkV l0 1)∧
 l.6=l0.6∧
 Int.ofNat 0≤0∧
 (0:Int)<↑(List.length l0.3)∧
 ∃t1 n2 ls9003,
 getV l0.3 0=V.agg [.int .i64 t1,.int .i64 n2,.list false ls9003]∧
 ((LK.s l).2=true→
 List.length (LK.s l).5≤9223372036854775807→
 ∀(x6:Int),
 x6=↑(List.length (LK.s l).5)→
 ∀(x8:Bool),
 x8=(x6==0)→
 ∀(x10:Bool),
 x10=(l.2==12)→
 (x10=true→
 ∀(x13:Bool),
 x13=!(LK.s l).2→
 (x13=true→
 ∀(x16:Bool),
 x16=decide (n2≤12)→
 (x16=true→
 ∃l19,
 (lkV l 1)=
 (lkV l19 1)∧
 l.6=l19.6∧
 Int.ofNat 0≤1∧
 (1:Int)<↑(List.length l19.3)∧
 ∃t20 n35 ls36,
 getV l19.3 1=V.agg [.int .i64 t20,.int .i64 n35,.list false ls36]∧
 ∃f23:Nat→Int×Int,
 (arrF 16 (FS.f (LK.s l)))=
 (arrF 16 f23)∧
 ∃l24,
 (lkV l 1)=
 (lkV l24 1)∧
 l.6=l24.6∧
 ∀(l'25:LK),
 l'25=zW l24 (liveB f23 n35)→
 ∀(x27:Bool),
 x27=!l'25.8→
 (x27=true→
 r=V.tup []∧
 ks=
 [⟨none,false,(lkV l'25 1)⟩,
 ⟨some 79,false,V.agg l'25.6⟩])∧
 (x27=false→
 ∃l31,
 (lkV l'25 1)=
 (lkV l31 1)∧
 l'25.6=l31.6∧
 Int.ofNat 0≤1∧
 (1:Int)<↑(List.length l31.3)∧
 ∃t32 n46 ls47,
 getV l31.3 1=V.agg [.int .i64 t32,.int .i64 n46,.list false ls47]∧
 ∃f35:Nat→Int×Int,
 (arrF 16 (FS.f (LK.o l'25)))=
 (arrF 16 f35)∧
 SOk
 (arrF 16 (FS.f (LK.o l'25)))
 (LK.o l'25).3 (LK.o l'25).5∧
 ∀(g36:Nat→Int×Int),
 g36=cutF f35 (if 0<if 16<n46 then 16 else n46 then if 16<n46 then 16 else n46 else 0)→
 [V.agg [.int .i64 0,.int .i64 (-1)]]=[V.agg [.int .i64 0,.int .i64 (-1)]]∧
 0≤n2∧
 n2≤100∧
 ∀(zs38:List V),
 zs38=rep0 n2→
 r=V.tup []∧
 ks=
 [⟨none,false,V.agg
 [(mdV l'25.m),.agg [.int .i64 l'25.2,.list false l'25.3],
 (fsV l'25.s),
 .agg
 [.agg
 (arrF 16 g36),
 .bool true,.list false zs38,.int .i64 0,.list false (LK.o l'25).5],
 .sl 1 (List.length l'25.6),.bool l'25.7,.bool l'25.8]⟩,
 ⟨some 79,false,V.agg l'25.6⟩]))∧
 (x16=false→
 ∃l41,
 (lkV l 1)=
 (lkV l41 1)∧
 l.6=l41.6∧
 ∀(l'42:LK),
 l'42=zW l41 false→
 ∀(x44:Bool),
 x44=!l'42.8→
 (x44=true→
 r=V.tup []∧
 ks=
 [⟨none,false,(lkV l'42 1)⟩,
 ⟨some 79,false,V.agg l'42.6⟩])∧
 (x44=false→
 ∃l48,
 (lkV l'42 1)=
 (lkV l48 1)∧
 l'42.6=l48.6∧
 Int.ofNat 0≤1∧
 (1:Int)<↑(List.length l48.3)∧
 ∃t49 n63 ls92,
 getV l48.3 1=V.agg [.int .i64 t49,.int .i64 n63,.list false ls92]∧
 ∃f52:Nat→Int×Int,
 (arrF 16 (FS.f (LK.o l'42)))=
 (arrF 16 f52)∧
 SOk
 (arrF 16 (FS.f (LK.o l'42)))
 (LK.o l'42).3 (LK.o l'42).5∧
 ∀(g53:Nat→Int×Int),
 g53=cutF f52 (if 0<if 16<n63 then 16 else n63 then if 16<n63 then 16 else n63 else 0)→
 [V.agg [.int .i64 0,.int .i64 (-1)]]=[V.agg [.int .i64 0,.int .i64 (-1)]]∧
 0≤n2∧
 n2≤100∧
 ∀(zs55:List V),
 zs55=rep0 n2→
 r=V.tup []∧
 ks=
 [⟨none,false,V.agg
 [(mdV l'42.m),.agg [.int .i64 l'42.2,.list false l'42.3],
 (fsV l'42.s),
 .agg
 [.agg
 (arrF 16 g53),
 .bool true,.list false zs55,.int .i64 0,.list false (LK.o l'42).5],
 .sl 1 (List.length l'42.6),.bool l'42.7,.bool l'42.8]⟩,
 ⟨some 79,false,V.agg l'42.6⟩])))∧
 (x13=false→
 ∃l58,
 (lkV l 1)=
 (lkV l58 1)∧
 l.6=l58.6∧
 ∀(l'59:LK),
 l'59=zW l58 false→
 ∀(x61:Bool),
 x61=!l'59.8→
 (x61=true→
 r=V.tup []∧
 ks=
 [⟨none,false,(lkV l'59 1)⟩,
 ⟨some 79,false,V.agg l'59.6⟩])∧
 (x61=false→
 ∃l65,
 (lkV l'59 1)=
 (lkV l65 1)∧
 l'59.6=l65.6∧
 Int.ofNat 0≤1∧
 (1:Int)<↑(List.length l65.3)∧
 ∃t66 n83 ls84,
 getV l65.3 1=V.agg [.int .i64 t66,.int .i64 n83,.list false ls84]∧
 ∃f69:Nat→Int×Int,
 (arrF 16 (FS.f (LK.o l'59)))=
 (arrF 16 f69)∧
 SOk
 (arrF 16 (FS.f (LK.o l'59)))
 (LK.o l'59).3 (LK.o l'59).5∧
 ∀(g70:Nat→Int×Int),
 g70=cutF f69 (if 0<if 16<n83 then 16 else n83 then if 16<n83 then 16 else n83 else 0)→
 [V.agg [.int .i64 0,.int .i64 (-1)]]=[V.agg [.int .i64 0,.int .i64 (-1)]]∧
 0≤n2∧
 n2≤100∧
 ∀(zs72:List V),
 zs72=rep0 n2→
 r=V.tup []∧
 ks=
 [⟨none,false,V.agg
 [(mdV l'59.m),.agg [.int .i64 l'59.2,.list false l'59.3],
 (fsV l'59.s),
 .agg
 [.agg
 (arrF 16 g70),
 .bool true,.list false zs72,.int .i64 0,.list false (LK.o l'59).5],
 .sl 1 (List.length l'59.6),.bool l'59.7,.bool l'59.8]⟩,
 ⟨some 79,false,V.agg l'59.6⟩])))∧
 (x10=false→
 ∀(x75:Bool),
 x75=(l.2==13)→
 (x75=true→
 (x8=true→
 List.length (LK.s l).3≤9223372036854775807→
 ∀(x80:Int),
 x80=↑(List.length (LK.s l).3)→
 ∀(x82:Bool),
 x82=(x80==n2)→
 ∃l84,
 (lkV l 1)=
 (lkV l84 1)∧
 l.6=l84.6∧
 ∀(l'85:LK),
 l'85=zW l84 x82→
 r=V.tup []∧
 ks=
 [⟨none,false,V.agg
 [(mdV l'85.m),.agg [.int .i64 l'85.2,.list false l'85.3],
 (fsV l'85.s),
 .agg
 [.agg
 (arrF 16 (FS.f (LK.o l'85))),
 .bool false,.list false [],.int .i64 (LK.o l'85).4,.list false (LK.o l'85).5],
 .sl 1 (List.length l'85.6),.bool l'85.7,.bool l'85.8]⟩,
 ⟨some 79,false,V.agg l'85.6⟩])∧
 (x8=false→
 ∃l88,
 (lkV l 1)=
 (lkV l88 1)∧
 l.6=l88.6∧
 ∀(l'89:LK),
 l'89=zW l88 false→
 r=V.tup []∧
 ks=
 [⟨none,false,V.agg
 [(mdV l'89.m),.agg [.int .i64 l'89.2,.list false l'89.3],
 (fsV l'89.s),
 .agg
 [.agg
 (arrF 16 (FS.f (LK.o l'89))),
 .bool false,.list false [],.int .i64 (LK.o l'89).4,.list false (LK.o l'89).5],
 .sl 1 (List.length l'89.6),.bool l'89.7,.bool l'89.8]⟩,
 ⟨some 79,false,V.agg l'89.6⟩]))∧
 (x75=false→
 ∀(x92:Bool),
 x92=(l.2==14)→
 (x92=true→
 (x8=true→
 List.length (LK.s l).3≤9223372036854775807→
 ∀(x97:Int),
 x97=↑(List.length (LK.s l).3)→
 ∀(x99:Bool),
 x99=decide (x97≥n2)→
 ∃l101,
 (lkV l 1)=
 (lkV l101 1)∧
 l.6=l101.6∧
 ∀(l'102:LK),
 l'102=zW l101 x99→
 (l'102.8=true→
 (True∧false=false∧True∧True∧True∧((none:Option V)≠none→(none:Option V)≠none∧Int.ofNat 0=Int.ofNat 0)∧0≤n2∧n2≤Int.ofNat (List.length (LK.s l'102).3)∧Int.ofNat (List.length (LK.s l'102).3)≤↑(List.length (LK.s l'102).3)∧some 2=some 2∧∀(v106:V),List.Mem v106 (LK.s l'102).3→V.sz v106=2)∧
 (True→
 ∀(x109:List V),
 x109=List.take (Int.toNat (Int.ofNat (List.length (LK.s l'102).3)-n2)) (List.drop (Int.toNat n2) (LK.s l'102).3)→
 KLs x109∧
 List.length x109≤1000∧
 ∀(zs111:List V),
 zs111=x109→
 r=V.tup []∧
 ks=
 [⟨none,false,V.agg
 [(mdV l'102.m),.agg [.int .i64 l'102.2,.list false l'102.3],
 (fsV l'102.s),
 .agg
 [.agg
 (arrF 16 (FS.f (LK.o l'102))),
 .bool (LK.o l'102).2,.list false zs111,.int .i64 (LK.o l'102).4,.list false (LK.o l'102).5],
 .sl 1 (List.length l'102.6),.bool l'102.7,.bool l'102.8]⟩,
 ⟨some 79,false,V.agg l'102.6⟩]))∧
 (l'102.8=false→
 r=V.tup []∧
 ks=
 [⟨none,false,(lkV l'102 1)⟩,
 ⟨some 79,false,V.agg l'102.6⟩]))∧
 (x8=false→
 ∃l115,
 (lkV l 1)=
 (lkV l115 1)∧
 l.6=l115.6∧
 ∀(l'116:LK),
 l'116=zW l115 false→
 (l'116.8=true→
 (True∧false=false∧True∧True∧True∧((none:Option V)≠none→(none:Option V)≠none∧Int.ofNat 0=Int.ofNat 0)∧0≤n2∧n2≤Int.ofNat (List.length (LK.s l'116).3)∧Int.ofNat (List.length (LK.s l'116).3)≤↑(List.length (LK.s l'116).3)∧some 2=some 2∧∀(v120:V),List.Mem v120 (LK.s l'116).3→V.sz v120=2)∧
 (True→
 ∀(x123:List V),
 x123=List.take (Int.toNat (Int.ofNat (List.length (LK.s l'116).3)-n2)) (List.drop (Int.toNat n2) (LK.s l'116).3)→
 KLs x123∧
 List.length x123≤1000∧
 ∀(zs125:List V),
 zs125=x123→
 r=V.tup []∧
 ks=
 [⟨none,false,V.agg
 [(mdV l'116.m),.agg [.int .i64 l'116.2,.list false l'116.3],
 (fsV l'116.s),
 .agg
 [.agg
 (arrF 16 (FS.f (LK.o l'116))),
 .bool (LK.o l'116).2,.list false zs125,.int .i64 (LK.o l'116).4,.list false (LK.o l'116).5],
 .sl 1 (List.length l'116.6),.bool l'116.7,.bool l'116.8]⟩,
 ⟨some 79,false,V.agg l'116.6⟩]))∧
 (l'116.8=false→
 r=V.tup []∧
 ks=
 [⟨none,false,(lkV l'116 1)⟩,
 ⟨some 79,false,V.agg l'116.6⟩])))∧
 (x92=false→
 ∀(x129:Bool),
 x129=(l.2==15)→
 (x129=true→
 ∃l132,
 (lkV l 1)=
 (lkV l132 1)∧
 l.6=l132.6∧
 Int.ofNat 0≤0∧
 (0:Int)<↑(List.length l132.3)∧
 ∃t133 n9134 ls9135,
 getV l132.3 0=V.agg [.int .i64 t133,.int .i64 n9134,.list false ls9135]∧
 ∃l136,
 (lkV l 1)=
 (lkV l136 1)∧
 l.6=l136.6∧
 LOk l136∧
 ∀(l'137:LK),
 l'137=dstL l136 t133 n9134 4 (-1)→
 r=V.tup []∧
 ks=
 [⟨none,false,(lkV l'137 1)⟩,
 ⟨some 79,false,V.agg l'137.6⟩])∧
 (x129=false→
 ∀(x140:Bool),
 x140=decide (n2≤100)→
 ∃l142,
 (lkV l 1)=
 (lkV l142 1)∧
 l.6=l142.6∧
 ∀(l'143:LK),
 l'143=zW l142 x140→
 ∃l145,
 (lkV l'143 1)=
 (lkV l145 1)∧
 l'143.6=l145.6∧
 Int.ofNat 0≤1∧
 (1:Int)<↑(List.length l145.3)∧
 ∃t146 n9147 ls9148,
 getV l145.3 1=V.agg [.int .i64 t146,.int .i64 n9147,.list false ls9148]∧
 ∃l149,
 (lkV l'143 1)=
 (lkV l149 1)∧
 l'143.6=l149.6∧
 LOk l149∧
 ∀(l'150:LK),
 l'150=liveL l149 n9147→
 r=V.tup []∧
 ks=
 [⟨none,false,V.agg
 [(mdV l'150.m),.agg [.int .i64 l'150.2,.list false l'150.3],
 (fsV l'150.s),
 .agg
 [.agg
 (arrF 16 (FS.f (LK.o l'150))),
 .bool (LK.o l'150).2,.list false (LK.o l'150).3,.int .i64 n2,.list false (LK.o l'150).5],
 .sl 1 (List.length l'150.6),.bool l'150.7,.bool l'150.8]⟩,
 ⟨some 79,false,V.agg l'150.6⟩])))))∧
 ((LK.s l).2=false→
 ∀(x153:Bool),
 x153=(l.2==12)→
 (x153=true→
 ∀(x156:Bool),
 x156=!(LK.s l).2→
 (x156=true→
 ∀(x159:Bool),
 x159=decide (n2≤12)→
 (x159=true→
 ∃l162,
 (lkV l 1)=
 (lkV l162 1)∧
 l.6=l162.6∧
 Int.ofNat 0≤1∧
 (1:Int)<↑(List.length l162.3)∧
 ∃t163 n9164 ls9165,
 getV l162.3 1=V.agg [.int .i64 t163,.int .i64 n9164,.list false ls9165]∧
 ∃f166:Nat→Int×Int,
 (arrF 16 (FS.f (LK.s l)))=
 (arrF 16 f166)∧
 ∃l167,
 (lkV l 1)=
 (lkV l167 1)∧
 l.6=l167.6∧
 ∀(l'168:LK),
 l'168=zW l167 (liveB f166 n9164)→
 ∀(x170:Bool),
 x170=!l'168.8→
 (x170=true→
 r=V.tup []∧
 ks=
 [⟨none,false,(lkV l'168 1)⟩,
 ⟨some 79,false,V.agg l'168.6⟩])∧
 (x170=false→
 ∃l174,
 (lkV l'168 1)=
 (lkV l174 1)∧
 l'168.6=l174.6∧
 Int.ofNat 0≤1∧
 (1:Int)<↑(List.length l174.3)∧
 ∃t175 n9176 ls9177,
 getV l174.3 1=V.agg [.int .i64 t175,.int .i64 n9176,.list false ls9177]∧
 ∃f178:Nat→Int×Int,
 (arrF 16 (FS.f (LK.o l'168)))=
 (arrF 16 f178)∧
 SOk
 (arrF 16 (FS.f (LK.o l'168)))
 (LK.o l'168).3 (LK.o l'168).5∧
 ∀(g179:Nat→Int×Int),
 g179=cutF f178 (if 0<if 16<n9176 then 16 else n9176 then if 16<n9176 then 16 else n9176 else 0)→
 [V.agg [.int .i64 0,.int .i64 (-1)]]=[V.agg [.int .i64 0,.int .i64 (-1)]]∧
 0≤n2∧
 n2≤100∧
 ∀(zs181:List V),
 zs181=rep0 n2→
 r=V.tup []∧
 ks=
 [⟨none,false,V.agg
 [(mdV l'168.m),.agg [.int .i64 l'168.2,.list false l'168.3],
 (fsV l'168.s),
 .agg
 [.agg
 (arrF 16 g179),
 .bool true,.list false zs181,.int .i64 0,.list false (LK.o l'168).5],
 .sl 1 (List.length l'168.6),.bool l'168.7,.bool l'168.8]⟩,
 ⟨some 79,false,V.agg l'168.6⟩]))∧
 (x159=false→
 ∃l184,
 (lkV l 1)=
 (lkV l184 1)∧
 l.6=l184.6∧
 ∀(l'185:LK),
 l'185=zW l184 false→
 ∀(x187:Bool),
 x187=!l'185.8→
 (x187=true→
 r=V.tup []∧
 ks=
 [⟨none,false,(lkV l'185 1)⟩,
 ⟨some 79,false,V.agg l'185.6⟩])∧
 (x187=false→
 ∃l191,
 (lkV l'185 1)=
 (lkV l191 1)∧
 l'185.6=l191.6∧
 Int.ofNat 0≤1∧
 (1:Int)<↑(List.length l191.3)∧
 ∃t192 n9193 ls9194,
 getV l191.3 1=V.agg [.int .i64 t192,.int .i64 n9193,.list false ls9194]∧
 ∃f195:Nat→Int×Int,
 (arrF 16 (FS.f (LK.o l'185)))=
 (arrF 16 f195)∧
 SOk
 (arrF 16 (FS.f (LK.o l'185)))
 (LK.o l'185).3 (LK.o l'185).5∧
 ∀(g196:Nat→Int×Int),
 g196=cutF f195 (if 0<if 16<n9193 then 16 else n9193 then if 16<n9193 then 16 else n9193 else 0)→
 [V.agg [.int .i64 0,.int .i64 (-1)]]=[V.agg [.int .i64 0,.int .i64 (-1)]]∧
 0≤n2∧
 n2≤100∧
 ∀(zs198:List V),
 zs198=rep0 n2→
 r=V.tup []∧
 ks=
 [⟨none,false,V.agg
 [(mdV l'185.m),.agg [.int .i64 l'185.2,.list false l'185.3],
 (fsV l'185.s),
 .agg
 [.agg
 (arrF 16 g196),
 .bool true,.list false zs198,.int .i64 0,.list false (LK.o l'185).5],
 .sl 1 (List.length l'185.6),.bool l'185.7,.bool l'185.8]⟩,
 ⟨some 79,false,V.agg l'185.6⟩])))∧
 (x156=false→
 ∃l201,
 (lkV l 1)=
 (lkV l201 1)∧
 l.6=l201.6∧
 ∀(l'202:LK),
 l'202=zW l201 false→
 ∀(x204:Bool),
 x204=!l'202.8→
 (x204=true→
 r=V.tup []∧
 ks=
 [⟨none,false,(lkV l'202 1)⟩,
 ⟨some 79,false,V.agg l'202.6⟩])∧
 (x204=false→
 ∃l208,
 (lkV l'202 1)=
 (lkV l208 1)∧
 l'202.6=l208.6∧
 Int.ofNat 0≤1∧
 (1:Int)<↑(List.length l208.3)∧
 ∃t209 n9210 ls9211,
 getV l208.3 1=V.agg [.int .i64 t209,.int .i64 n9210,.list false ls9211]∧
 ∃f212:Nat→Int×Int,
 (arrF 16 (FS.f (LK.o l'202)))=
 (arrF 16 f212)∧
 SOk
 (arrF 16 (FS.f (LK.o l'202)))
 (LK.o l'202).3 (LK.o l'202).5∧
 ∀(g213:Nat→Int×Int),
 g213=cutF f212 (if 0<if 16<n9210 then 16 else n9210 then if 16<n9210 then 16 else n9210 else 0)→
 [V.agg [.int .i64 0,.int .i64 (-1)]]=[V.agg [.int .i64 0,.int .i64 (-1)]]∧
 0≤n2∧
 n2≤100∧
 ∀(zs215:List V),
 zs215=rep0 n2→
 r=V.tup []∧
 ks=
 [⟨none,false,V.agg
 [(mdV l'202.m),.agg [.int .i64 l'202.2,.list false l'202.3],
 (fsV l'202.s),
 .agg
 [.agg
 (arrF 16 g213),
 .bool true,.list false zs215,.int .i64 0,.list false (LK.o l'202).5],
 .sl 1 (List.length l'202.6),.bool l'202.7,.bool l'202.8]⟩,
 ⟨some 79,false,V.agg l'202.6⟩])))∧
 (x153=false→
 ∀(x218:Bool),
 x218=(l.2==13)→
 (x218=true→
 ∃l221,
 (lkV l 1)=
 (lkV l221 1)∧
 l.6=l221.6∧
 ∀(l'222:LK),
 l'222=zW l221 false→
 r=V.tup []∧
 ks=
 [⟨none,false,V.agg
 [(mdV l'222.m),.agg [.int .i64 l'222.2,.list false l'222.3],
 (fsV l'222.s),
 .agg
 [.agg
 (arrF 16 (FS.f (LK.o l'222))),
 .bool false,.list false [],.int .i64 (LK.o l'222).4,.list false (LK.o l'222).5],
 .sl 1 (List.length l'222.6),.bool l'222.7,.bool l'222.8]⟩,
 ⟨some 79,false,V.agg l'222.6⟩])∧
 (x218=false→
 ∀(x225:Bool),
 x225=(l.2==14)→
 (x225=true→
 ∃l228,
 (lkV l 1)=
 (lkV l228 1)∧
 l.6=l228.6∧
 ∀(l'229:LK),
 l'229=zW l228 false→
 (l'229.8=true→
 (True∧false=false∧True∧True∧True∧((none:Option V)≠none→(none:Option V)≠none∧Int.ofNat 0=Int.ofNat 0)∧0≤n2∧n2≤Int.ofNat (List.length (LK.s l'229).3)∧Int.ofNat (List.length (LK.s l'229).3)≤↑(List.length (LK.s l'229).3)∧some 2=some 2∧∀(v233:V),List.Mem v233 (LK.s l'229).3→V.sz v233=2)∧
 (True→
 ∀(x236:List V),
 x236=List.take (Int.toNat (Int.ofNat (List.length (LK.s l'229).3)-n2)) (List.drop (Int.toNat n2) (LK.s l'229).3)→
 KLs x236∧
 List.length x236≤1000∧
 ∀(zs238:List V),
 zs238=x236→
 r=V.tup []∧
 ks=
 [⟨none,false,V.agg
 [(mdV l'229.m),.agg [.int .i64 l'229.2,.list false l'229.3],
 (fsV l'229.s),
 .agg
 [.agg
 (arrF 16 (FS.f (LK.o l'229))),
 .bool (LK.o l'229).2,.list false zs238,.int .i64 (LK.o l'229).4,.list false (LK.o l'229).5],
 .sl 1 (List.length l'229.6),.bool l'229.7,.bool l'229.8]⟩,
 ⟨some 79,false,V.agg l'229.6⟩]))∧
 (l'229.8=false→
 r=V.tup []∧
 ks=
 [⟨none,false,(lkV l'229 1)⟩,
 ⟨some 79,false,V.agg l'229.6⟩]))∧
 (x225=false→
 ∀(x242:Bool),
 x242=(l.2==15)→
 (x242=true→
 ∃l245,
 (lkV l 1)=
 (lkV l245 1)∧
 l.6=l245.6∧
 Int.ofNat 0≤0∧
 (0:Int)<↑(List.length l245.3)∧
 ∃t246 n9247 ls9248,
 getV l245.3 0=V.agg [.int .i64 t246,.int .i64 n9247,.list false ls9248]∧
 ∃l249,
 (lkV l 1)=
 (lkV l249 1)∧
 l.6=l249.6∧
 LOk l249∧
 ∀(l'250:LK),
 l'250=dstL l249 t246 n9247 4 (-1)→
 r=V.tup []∧
 ks=
 [⟨none,false,(lkV l'250 1)⟩,
 ⟨some 79,false,V.agg l'250.6⟩])∧
 (x242=false→
 ∀(x253:Bool),
 x253=decide (n2≤100)→
 ∃l255,
 (lkV l 1)=
 (lkV l255 1)∧
 l.6=l255.6∧
 ∀(l'256:LK),
 l'256=zW l255 x253→
 ∃l258,
 (lkV l'256 1)=
 (lkV l258 1)∧
 l'256.6=l258.6∧
 Int.ofNat 0≤1∧
 (1:Int)<↑(List.length l258.3)∧
 ∃t259 n9260 ls9261,
 getV l258.3 1=V.agg [.int .i64 t259,.int .i64 n9260,.list false ls9261]∧
 ∃l262,
 (lkV l'256 1)=
 (lkV l262 1)∧
 l'256.6=l262.6∧
 LOk l262∧
 ∀(l'263:LK),
 l'263=liveL l262 n9260→
 r=V.tup []∧
 ks=
 [⟨none,false,V.agg
 [(mdV l'263.m),.agg [.int .i64 l'263.2,.list false l'263.3],
 (fsV l'263.s),
 .agg
 [.agg
 (arrF 16 (FS.f (LK.o l'263))),
 .bool (LK.o l'263).2,.list false (LK.o l'263).3,.int .i64 n2,.list false (LK.o l'263).5],
 .sl 1 (List.length l'263.6),.bool l'263.7,.bool l'263.8]⟩,
 ⟨some 79,false,V.agg l'263.6⟩])))))):=by kernel_rfl
end GoL
