/- A part of the proof: a logic proved sound over the model; contracts; plain laws. -/
import Derived.Test.YteeaefidpkifbaaF5D
set_option linter.all false
open Go Go.Proofs
namespace GoL
set_option maxRecDepth 100000
theorem nl16_0 (am im ex fu li co:List V) (fm tm en ar:Int) (m:SM) (q:List Int) (x y n i:Int) (Nx Ex Rt:List V→List Blk→Prop):wC Try.prog sp16 135 zB (zN Try.f16) noLs 0 (zP Try.f16 0).2 1037 (List.zip [2,3,7,45,46,47] [.ptr 1000 0 [],.ptr 1001 0 [],.ptr 1027 0 [],.sl 1034 2,.int .i64 n,.int .i64 i]) (List.zip [1000,1001,1024,1025,1027,1034] [⟨none,false,.agg [.list false am,.list false im,.list false ex,.list false fu,.list false li,.list false co]⟩,⟨none,false,.agg [.int .i64 fm,.int .i64 tm,.int .i64 en,.int .i64 ar]⟩,⟨some 48,false,.own 48 (stV m)⟩,⟨some 65,false,.own 65 (frV q)⟩,⟨none,false,wkV fm tm en ar 1024 1025⟩,⟨some 3,false,.agg [.int .i64 x,.int .i64 y]⟩]) (endK ends16_0 Nx Ex Rt)=(
 ∀(x0:Bool),
 x0=decide (i<n)→
 (x0=true→
 2=List.length [V.int .i64 x,V.int .i64 y]∧
 0≤i∧
 i<↑2∧
 some 1=some 1∧
 ∃n3,
 subQ (V.agg [.int .i64 x,.int .i64 y]) [Int.toNat i]=some (V.int .i64 n3)∧
 2=List.length [V.int .i64 x,V.int .i64 y]∧
 offQ (V.agg [.int .i64 x,.int .i64 y]) [Int.toNat i]=Int.toNat i*1∧
 ∀(f4:Nat→Int×Int),
 f4=entF ar→
 ∃m6 q7 g8,
 stV m=stV m6∧
 frV q=frV q7∧
 (arrF 16 f4)=
 (arrF 16 g8)∧
 tX m6∧
 List.length q7≤100000∧
 SOkS ⟨g8,false,[],0,[]⟩∧
 -1≤n3∧
 n3≤1000000000∧
 ∀(z9:Bool×SM×List Int),
 z9=uA fm tm m6 q7 n3 ⟨g8,false,[],0,[]⟩→
 ∀(x11:Bool),
 x11=!z9.1→
 (x11=true→Rt [V.own 0 [],V.int .i64 fm,V.gd true (V.bool false)] [])∧
 (x11=false→
 ∀(x15:Int),
 x15=IntKind.wrap .i64 (i+1)→
 (∀(v17:V),List.Mem v17 (stV (Prod.snd z9).1)→V.ids v17=[])∧
 (∀(v19:V),List.Mem v19 (frV (Prod.snd z9).2)→V.ids v19=[])∧
 (∀(v21:V),List.Mem v21 [V.int .i64 x,V.int .i64 y]→V.ids v21=[])∧
 Nx [V.ptr 1000 0 [],V.ptr 1001 0 [],V.ptr 1027 0 [],V.sl 1034 2,V.int .i64 n,V.int .i64 x15]
 [⟨none,false,V.agg [.list false am,.list false im,.list false ex,.list false fu,.list false li,.list false co]⟩,⟨none,false,V.agg [.int .i64 fm,.int .i64 tm,.int .i64 en,.int .i64 ar]⟩,
 ⟨some 48,false,V.own 48 (stV (Prod.snd z9).1)⟩,⟨some 65,false,V.own 65 (frV (Prod.snd z9).2)⟩,
 ⟨none,false,V.agg [.agg [.int .i64 fm,.int .i64 tm,.int .i64 en,.int .i64 ar],.own 48 [V.ptr 1024 0 [],V.nilp],.own 65 [V.ptr 1025 0 [],V.nilp]]⟩,⟨some 3,false,V.agg [.int .i64 x,.int .i64 y]⟩]))∧
 (x0=false→
 (∀(v24:V),List.Mem v24 (stV m)→V.ids v24=[])∧
 (∀(v26:V),List.Mem v26 (frV q)→V.ids v26=[])∧
 Ex [V.ptr 1000 0 [],V.ptr 1001 0 [],V.ptr 1027 0 []]
 (wkB am im ex fu li co fm tm en ar (m) (q)))):=by kernel_rfl
theorem nl16_1 (am im ex fu li co:List V) (fm tm en ar:Int) (m:SM) (q:List Int) (Nx Ex Rt:List V→List Blk→Prop):wC Try.prog sp16 135 zB (zN Try.f16) ls16c 2 (zP Try.f16 1).2 1037 (List.zip [2,3,7] [.ptr 1000 0 [],.ptr 1001 0 [],.ptr 1027 0 []]) (List.zip [1000,1001,1024,1025,1027] [⟨none,false,.agg [.list false am,.list false im,.list false ex,.list false fu,.list false li,.list false co]⟩,⟨none,false,.agg [.int .i64 fm,.int .i64 tm,.int .i64 en,.int .i64 ar]⟩,⟨some 48,false,.own 48 (stV m)⟩,⟨some 65,false,.own 65 (frV q)⟩,⟨none,false,wkV fm tm en ar 1024 1025⟩]) (endK ends16_1 Nx Ex Rt)=(
 List.length (frV q)≤9223372036854775807→
 ∀(x1:Int),
 x1=↑(List.length (frV q))→
 ∀(x3:Bool),
 x3=decide (x1>0)→
 (x3=true→
 List.length (frV q)≤1000000∧
 ((∀(v6:V),List.Mem v6 (mkeys (frV q))→∃n8,v6=V.int .i64 n8)∧List.length (mkeys (frV q))≤1000000)∧
 1≤List.length (mkeys (frV q))∧
 True∧
 (True→
 0≤uE (mkeys (frV q))∧
 uE (mkeys (frV q))<↑(List.length co)∧
 ∃n10 l11,
 getV co (uE (mkeys (frV q)))=V.agg [.int .i64 n10,.list false l11]∧
 (mget (stV m) (uE (mkeys (frV q)))=none→
 ∃f13:Nat→Int×Int,
 (arrF 16 zF)=
 (arrF 16 f13)∧
 MOk ⟨am,im,ex,fu,li,co⟩∧
 SOkS ⟨f13,false,[],0,[]⟩∧
 0≤900∧
 (∀(u14:V),List.Mem u14 l11→T28 u14)∧
 ∀(o16:FS),
 o16=effO ⟨am,im,ex,fu,li,co⟩ n10 l11 ⟨f13,false,[],0,[]⟩→
 ∀(es18:List V),
 es18=effE ⟨am,im,ex,fu,li,co⟩ n10 l11 ⟨f13,false,[],0,[]⟩→
 ∀(g20:Bool),
 g20=effG ⟨am,im,ex,fu,li,co⟩ n10 l11 ⟨f13,false,[],0,[]⟩→
 ∀(ok22:Bool),
 ok22=effOk ⟨am,im,ex,fu,li,co⟩ n10 l11 ⟨f13,false,[],0,[]⟩→
 ∀(x24:Bool),
 x24=!ok22→
 (x24=true→Rt [V.own 0 [],V.int .i64 (uE (mkeys (frV q))),V.gd true (V.bool false)] [])∧
 (x24=false→
 (g20=true→
 ∀(x29:Int),
 x29=IntKind.wrap .i64 (uE (mkeys (frV q))+1)→
 ∃m31 q32 g33,
 stV m=stV m31∧
 mdel (frV q) (uE (mkeys (frV q)))=frV q32∧
 (arrF 16 (FS.f o16))=
 (arrF 16 g33)∧
 tX m31∧
 List.length q32≤100000∧
 SOkS ⟨g33,o16.2,o16.3,o16.4,o16.5⟩∧
 -1≤x29∧
 x29≤1000000000∧
 ∀(z34:Bool×SM×List Int),
 z34=uA fm tm m31 q32 x29 ⟨g33,o16.2,o16.3,o16.4,o16.5⟩→
 ∀(x36:Bool),
 x36=!z34.1→
 (x36=true→Rt [V.own 0 [],V.int .i64 (uE (mkeys (frV q))),V.gd true (V.bool false)] [])∧
 (x36=false→
 List.length es18≤9223372036854775807→
 ∀(x41:Int),
 x41=↑(List.length es18)→
 (∀(v43:V),List.Mem v43 (stV (Prod.snd z34).1)→V.ids v43=[])∧
 (∀(v45:V),List.Mem v45 (frV (Prod.snd z34).2)→V.ids v45=[])∧
 V.agg [.int .i64 fm,.int .i64 tm,.int .i64 en,.int .i64 ar]=V.agg [.int .i64 fm,.int .i64 tm,.int .i64 en,.int .i64 ar]∧
 Int.ofNat 0=0∧
 x41=↑(List.length es18)∧
 ∃es47 m48 q49,
 es18=edV es47∧
 stV (Prod.snd z34).1=stV m48∧
 frV (Prod.snd z34).2=frV q49∧
 uB co∧
 EsOk es47∧
 uO m48∧
 List.length m48≤50001∧
 List.length q49≤50001∧
 (∀(m'50:SM) (q'51:List Int),
 uG co fm tm es47 m48 q49=(true,m'50,q'51)→
 uO m'50→
 ∀(x54:Bool),
 x54=!g20→
 (x54=true→
 (∀(v57:V),List.Mem v57 (stV m'50)→V.ids v57=[])∧
 (∀(v59:V),List.Mem v59 (frV q'51)→V.ids v59=[])∧
 Nx [V.ptr 1000 0 [],V.ptr 1001 0 [],V.ptr 1027 0 []]
 (wkB am im ex fu li co fm tm en ar (m'50) (q'51)))∧
 (x54=false→
 (∀(v62:V),List.Mem v62 (stV m'50)→V.ids v62=[])∧
 (∀(v64:V),List.Mem v64 (frV q'51)→V.ids v64=[])∧
 Nx [V.ptr 1000 0 [],V.ptr 1001 0 [],V.ptr 1027 0 []]
 (wkB am im ex fu li co fm tm en ar (m'50) (q'51))))∧
 ∀(m'66:SM) (q'67:List Int),uG co fm tm es47 m48 q49=(false,m'66,q'67)→Rt [V.own 0 [],V.int .i64 (uE (mkeys (frV q))),V.gd true (V.bool false)] []))∧
 (g20=false→
 (false=true→Rt [V.own 0 [],V.int .i64 (uE (mkeys (frV q))),V.gd true (V.bool false)] [])∧
 (false=false→
 List.length es18≤9223372036854775807→
 ∀(x73:Int),
 x73=↑(List.length es18)→
 (∀(v75:V),List.Mem v75 (stV m)→V.ids v75=[])∧
 (∀(v77:V),List.Mem v77 (mdel (frV q) (uE (mkeys (frV q))))→V.ids v77=[])∧
 V.agg [.int .i64 fm,.int .i64 tm,.int .i64 en,.int .i64 ar]=V.agg [.int .i64 fm,.int .i64 tm,.int .i64 en,.int .i64 ar]∧
 Int.ofNat 0=0∧
 x73=↑(List.length es18)∧
 ∃es79 m80 q81,
 es18=edV es79∧
 stV m=stV m80∧
 mdel (frV q) (uE (mkeys (frV q)))=frV q81∧
 uB co∧
 EsOk es79∧
 uO m80∧
 List.length m80≤50001∧
 List.length q81≤50001∧
 (∀(m'82:SM) (q'83:List Int),
 uG co fm tm es79 m80 q81=(true,m'82,q'83)→
 uO m'82→
 ∀(x86:Bool),
 x86=!g20→
 (x86=true→
 (∀(v89:V),List.Mem v89 (stV m'82)→V.ids v89=[])∧
 (∀(v91:V),List.Mem v91 (frV q'83)→V.ids v91=[])∧
 Nx [V.ptr 1000 0 [],V.ptr 1001 0 [],V.ptr 1027 0 []]
 (wkB am im ex fu li co fm tm en ar (m'82) (q'83)))∧
 (x86=false→
 (∀(v94:V),List.Mem v94 (stV m'82)→V.ids v94=[])∧
 (∀(v96:V),List.Mem v96 (frV q'83)→V.ids v96=[])∧
 Nx [V.ptr 1000 0 [],V.ptr 1001 0 [],V.ptr 1027 0 []]
 (wkB am im ex fu li co fm tm en ar (m'82) (q'83))))∧
 ∀(m'98:SM) (q'99:List Int),uG co fm tm es79 m80 q81=(false,m'98,q'99)→Rt [V.own 0 [],V.int .i64 (uE (mkeys (frV q))),V.gd true (V.bool false)] []))))∧
 ((match mget (stV m) (uE (mkeys (frV q))) with
 |some val=>true
 |none=>false)=
 true→
 ∃f102 b103 l104 n105 l106,
 mget (stV m) (uE (mkeys (frV q)))=
 some
 (V.agg
 [.agg
 (arrF 16 f102),
 .bool b103,.list false l104,.int .i64 n105,.list false l106])∧
 ∃f107:Nat→Int×Int,
 (arrF 16 f102)=
 (arrF 16 f107)∧
 MOk ⟨am,im,ex,fu,li,co⟩∧
 SOkS ⟨f107,b103,l104,n105,l106⟩∧
 List.length l106≤900∧
 (∀(u108:V),List.Mem u108 l11→T28 u108)∧
 ∀(o110:FS),
 o110=effO ⟨am,im,ex,fu,li,co⟩ n10 l11 ⟨f107,b103,l104,n105,l106⟩→
 ∀(es112:List V),
 es112=effE ⟨am,im,ex,fu,li,co⟩ n10 l11 ⟨f107,b103,l104,n105,l106⟩→
 ∀(g114:Bool),
 g114=effG ⟨am,im,ex,fu,li,co⟩ n10 l11 ⟨f107,b103,l104,n105,l106⟩→
 ∀(ok116:Bool),
 ok116=effOk ⟨am,im,ex,fu,li,co⟩ n10 l11 ⟨f107,b103,l104,n105,l106⟩→
 ∀(x118:Bool),
 x118=!ok116→
 (x118=true→Rt [V.own 0 [],V.int .i64 (uE (mkeys (frV q))),V.gd true (V.bool false)] [])∧
 (x118=false→
 (g114=true→
 ∀(x123:Int),
 x123=IntKind.wrap .i64 (uE (mkeys (frV q))+1)→
 ∃m125 q126 g127,
 stV m=stV m125∧
 mdel (frV q) (uE (mkeys (frV q)))=frV q126∧
 (arrF 16 (FS.f o110))=
 (arrF 16 g127)∧
 tX m125∧
 List.length q126≤100000∧
 SOkS ⟨g127,o110.2,o110.3,o110.4,o110.5⟩∧
 -1≤x123∧
 x123≤1000000000∧
 ∀(z128:Bool×SM×List Int),
 z128=uA fm tm m125 q126 x123 ⟨g127,o110.2,o110.3,o110.4,o110.5⟩→
 ∀(x130:Bool),
 x130=!z128.1→
 (x130=true→Rt [V.own 0 [],V.int .i64 (uE (mkeys (frV q))),V.gd true (V.bool false)] [])∧
 (x130=false→
 List.length es112≤9223372036854775807→
 ∀(x135:Int),
 x135=↑(List.length es112)→
 (∀(v137:V),List.Mem v137 (stV (Prod.snd z128).1)→V.ids v137=[])∧
 (∀(v139:V),List.Mem v139 (frV (Prod.snd z128).2)→V.ids v139=[])∧
 V.agg [.int .i64 fm,.int .i64 tm,.int .i64 en,.int .i64 ar]=V.agg [.int .i64 fm,.int .i64 tm,.int .i64 en,.int .i64 ar]∧
 Int.ofNat 0=0∧
 x135=↑(List.length es112)∧
 ∃es141 m142 q143,
 es112=edV es141∧
 stV (Prod.snd z128).1=stV m142∧
 frV (Prod.snd z128).2=frV q143∧
 uB co∧
 EsOk es141∧
 uO m142∧
 List.length m142≤50001∧
 List.length q143≤50001∧
 (∀(m'144:SM) (q'145:List Int),
 uG co fm tm es141 m142 q143=(true,m'144,q'145)→
 uO m'144→
 ∀(x148:Bool),
 x148=!g114→
 (x148=true→
 (∀(v151:V),List.Mem v151 (stV m'144)→V.ids v151=[])∧
 (∀(v153:V),List.Mem v153 (frV q'145)→V.ids v153=[])∧
 Nx [V.ptr 1000 0 [],V.ptr 1001 0 [],V.ptr 1027 0 []]
 (wkB am im ex fu li co fm tm en ar (m'144) (q'145)))∧
 (x148=false→
 (∀(v156:V),List.Mem v156 (stV m'144)→V.ids v156=[])∧
 (∀(v158:V),List.Mem v158 (frV q'145)→V.ids v158=[])∧
 Nx [V.ptr 1000 0 [],V.ptr 1001 0 [],V.ptr 1027 0 []]
 (wkB am im ex fu li co fm tm en ar (m'144) (q'145))))∧
 ∀(m'160:SM) (q'161:List Int),uG co fm tm es141 m142 q143=(false,m'160,q'161)→Rt [V.own 0 [],V.int .i64 (uE (mkeys (frV q))),V.gd true (V.bool false)] []))∧
 (g114=false→
 (false=true→Rt [V.own 0 [],V.int .i64 (uE (mkeys (frV q))),V.gd true (V.bool false)] [])∧
 (false=false→
 List.length es112≤9223372036854775807→
 ∀(x167:Int),
 x167=↑(List.length es112)→
 (∀(v169:V),List.Mem v169 (stV m)→V.ids v169=[])∧
 (∀(v171:V),List.Mem v171 (mdel (frV q) (uE (mkeys (frV q))))→V.ids v171=[])∧
 V.agg [.int .i64 fm,.int .i64 tm,.int .i64 en,.int .i64 ar]=V.agg [.int .i64 fm,.int .i64 tm,.int .i64 en,.int .i64 ar]∧
 Int.ofNat 0=0∧
 x167=↑(List.length es112)∧
 ∃es173 m174 q175,
 es112=edV es173∧
 stV m=stV m174∧
 mdel (frV q) (uE (mkeys (frV q)))=frV q175∧
 uB co∧
 EsOk es173∧
 uO m174∧
 List.length m174≤50001∧
 List.length q175≤50001∧
 (∀(m'176:SM) (q'177:List Int),
 uG co fm tm es173 m174 q175=(true,m'176,q'177)→
 uO m'176→
 ∀(x180:Bool),
 x180=!g114→
 (x180=true→
 (∀(v183:V),List.Mem v183 (stV m'176)→V.ids v183=[])∧
 (∀(v185:V),List.Mem v185 (frV q'177)→V.ids v185=[])∧
 Nx [V.ptr 1000 0 [],V.ptr 1001 0 [],V.ptr 1027 0 []]
 (wkB am im ex fu li co fm tm en ar (m'176) (q'177)))∧
 (x180=false→
 (∀(v188:V),List.Mem v188 (stV m'176)→V.ids v188=[])∧
 (∀(v190:V),List.Mem v190 (frV q'177)→V.ids v190=[])∧
 Nx [V.ptr 1000 0 [],V.ptr 1001 0 [],V.ptr 1027 0 []]
 (wkB am im ex fu li co fm tm en ar (m'176) (q'177))))∧
 ∀(m'192:SM) (q'193:List Int),uG co fm tm es173 m174 q175=(false,m'192,q'193)→Rt [V.own 0 [],V.int .i64 (uE (mkeys (frV q))),V.gd true (V.bool false)] []))))))∧
 (x3=false→
 (∀(v196:V),List.Mem v196 (stV m)→V.ids v196=[])∧
 (∀(v198:V),List.Mem v198 (frV q)→V.ids v198=[])∧
 Ex [V.ptr 1000 0 [],V.ptr 1001 0 [],V.ptr 1027 0 []]
 (wkB am im ex fu li co fm tm en ar (m) (q)))):=by kernel_rfl
theorem nl16_2 (am im ex fu li co:List V) (fm tm en ar:Int) (m:SM) (q:List Int) (a:Int) (g:Bool) (es:List (Int×FS)) (n i:Int) (Nx Ex Rt:List V→List Blk→Prop):wC Try.prog sp16 135 zB (zN Try.f16) noLs 4 (lin (zP Try.f16 1) 0).2 1096 (List.zip [2,3,7,10,13,111,112,113] [.ptr 1000 0 [],.ptr 1001 0 [],.ptr 1027 0 [],.int .i64 a,.bool g,.list false (edV es),.int .i64 n,.int .i64 i]) (List.zip [1000,1001,1024,1025,1027] [⟨none,false,.agg [.list false am,.list false im,.list false ex,.list false fu,.list false li,.list false co]⟩,⟨none,false,.agg [.int .i64 fm,.int .i64 tm,.int .i64 en,.int .i64 ar]⟩,⟨some 48,false,.own 48 (stV m)⟩,⟨some 65,false,.own 65 (frV q)⟩,⟨none,false,wkV fm tm en ar 1024 1025⟩]) (endK ends16_2 Nx Ex Rt)=(
 ∀(x0:Bool),
 x0=decide (i<n)→
 (x0=true→
 0≤i∧
 i<↑(List.length (edV es))∧
 ∃n3 f4 b5 l6 n7 l8,
 getV (edV es) i=
 V.agg
 [.int .i64 n3,
 .agg
 [.agg
 (arrF 16 f4),
 .bool b5,.list false l6,.int .i64 n7,.list false l8]]∧
 uB co∧
 ∃m9 q10 g11,
 stV m=stV m9∧
 frV q=frV q10∧
 (arrF 16 f4)=
 (arrF 16 g11)∧
 tX m9∧
 List.length q10≤100000∧
 SOkS ⟨g11,b5,l6,n7,l8⟩∧
 -1≤uD n3 co 0∧
 uD n3 co 0≤1000000000∧
 ∀(z12:Bool×SM×List Int),
 z12=uA fm tm m9 q10 (uD n3 co 0) ⟨g11,b5,l6,n7,l8⟩→
 ∀(x14:Bool),
 x14=!z12.1→
 (x14=true→Rt [V.own 0 [],V.int .i64 a,V.gd true (V.bool false)] [])∧
 (x14=false→
 ∀(x18:Int),
 x18=IntKind.wrap .i64 (i+1)→
 (∀(v20:V),List.Mem v20 (stV (Prod.snd z12).1)→V.ids v20=[])∧
 (∀(v22:V),List.Mem v22 (frV (Prod.snd z12).2)→V.ids v22=[])∧
 Nx [V.ptr 1000 0 [],V.ptr 1001 0 [],V.ptr 1027 0 [],V.int .i64 a,V.bool g,V.list false (edV es),V.int .i64 n,V.int .i64 x18]
 (wkB am im ex fu li co fm tm en ar ((Prod.snd z12).1) ((Prod.snd z12).2))))∧
 (x0=false→
 (∀(v25:V),List.Mem v25 (stV m)→V.ids v25=[])∧
 (∀(v27:V),List.Mem v27 (frV q)→V.ids v27=[])∧
 Ex [V.ptr 1000 0 [],V.ptr 1001 0 [],V.ptr 1027 0 [],V.int .i64 a,V.bool g]
 (wkB am im ex fu li co fm tm en ar (m) (q)))):=by kernel_rfl
theorem n16 (am im ex fu li co:List V) (fm tm en ar:Int) (r:V):wC Try.prog sp16 135 zB (zN Try.f16) ls16 0 (zC Try.f16) 1000 (zL [.agg [.list false am,.list false im,.list false ex,.list false fu,.list false li,.list false co],.agg [.int .i64 fm,.int .i64 tm,.int .i64 en,.int .i64 ar]] 0) [] (finK Try.prog none Try.f16.results.toList r)=(
 ∀(x0:Bool),
 x0=decide (fm<0)→
 (x0=true→r=V.tup [.own 0 [],.int .i64 0,.bool false])∧
 (x0=false→
 ∀(x4:Bool),
 x4=decide (tm<fm)→
 (x4=true→r=V.tup [.own 0 [],.int .i64 0,.bool false])∧
 (x4=false→
 List.length co≤9223372036854775807→
 ∀(x9:Int),
 x9=↑(List.length co)→
 ∀(x11:Bool),
 x11=decide (tm>x9)→
 (x11=true→r=V.tup [.own 0 [],.int .i64 0,.bool false])∧
 (x11=false→
 True∧
 (True→
 True∧
 (True→
 ∀(x17:Int),
 x17=IntKind.wrap .i64 (fm+2)→
 2=List.length [V.int .i64 fm,V.int .i64 x17]∧
 (List.length [V.int .i64 fm,V.int .i64 x17]≤9223372036854775807→
 ∀(x20:Int),
 x20=↑(List.length [V.int .i64 fm,V.int .i64 x17])→
 (∀(v22:V),List.Mem v22 []→V.ids v22=[])∧
 (∀(v24:V),List.Mem v24 []→V.ids v24=[])∧
 (∀(v26:V),List.Mem v26 [V.int .i64 fm,V.int .i64 x17]→V.ids v26=[])∧
 V.agg [.int .i64 fm,.int .i64 tm,.int .i64 en,.int .i64 ar]=V.agg [.int .i64 fm,.int .i64 tm,.int .i64 en,.int .i64 ar]∧
 2=2∧
 x20=2∧
 Int.ofNat 0=0∧
 fm=fm∧
 x17=IntKind.wrap .i64 (fm+2)∧
 ([]:List V)=[]∧
 ([]:List V)=[]∧
 0≤fm∧
 fm≤1000000∧
 (∀(m28:SM) (q29:List Int),
 uP fm tm ar=(true,m28,q29)→
 uO m28→
 (∀(v32:V),List.Mem v32 (stV m28)→V.ids v32=[])∧
 (∀(v34:V),List.Mem v34 (frV q29)→V.ids v34=[])∧
 V.agg [.int .i64 fm,.int .i64 tm,.int .i64 en,.int .i64 ar]=V.agg [.int .i64 fm,.int .i64 tm,.int .i64 en,.int .i64 ar]∧
 ∃E36 k37 m38 q39 res40,
 stV m28=stV m38∧
 frV q29=frV q39∧
 EFOk ⟨am,im,ex,fu,li,co⟩ E36∧
 MOk ⟨am,im,ex,fu,li,co⟩∧
 uB co∧
 uO m38∧
 tA E36 co fm tm k37 m38 q39=some res40∧
 (∀(m'41:SM),res40=(true,0,m'41)→uO m'41→r=V.tup [.own 48 [V.list false (stV m'41)],.int .i64 0,.bool true])∧∀(a44:Int) (m'45:SM),res40=(false,a44,m'45)→r=V.tup [.own 0 [],.int .i64 a44,.bool false])∧
 ∀(m47:SM) (q48:List Int),uP fm tm ar=(false,m47,q48)→r=V.tup [.own 0 [],.int .i64 fm,.bool false]))))))):=by kernel_rfl
end GoL
