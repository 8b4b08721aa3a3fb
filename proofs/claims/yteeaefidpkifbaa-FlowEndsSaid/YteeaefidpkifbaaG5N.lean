/- A part of the proof: a logic proved sound over the model; contracts; plain laws. -/
import Derived.Test.YteeaefidpkifbaaGE
import Derived.Test.YteeaefidpkifbaaG5D
set_option linter.all false
open Go Go.Proofs
namespace GoL
set_option maxRecDepth 100000
theorem n35 (l:LK) (r:V) (ks:List Blk):wC Try.prog sp35 100 zB (zN Try.f35) noLs 0 (zC Try.f35) 1001 (zL [.ptr 0 0 []] 0) [(0,⟨none,false,lkV l 1000⟩),(1000,⟨some 79,false,.agg l.es⟩),(0,⟨none,false,lkN l⟩)] (finQ Try.prog [] none Try.f35.results.toList [0,1000] fun v bs=>r=v∧ks=bs)=(
 ∀(x0:Bool),
 x0=(l.2==1)→
 (x0=true→
 r=V.tup []∧
 ks=
 [⟨none,false,(lkV l 1000)⟩,
 ⟨some 79,false,V.agg l.6⟩])∧
 (x0=false→
 ∀(x4:Bool),
 x4=(l.2==2)→
 (x4=true→
 r=V.tup []∧
 ks=
 [⟨none,false,(lkV l 1000)⟩,
 ⟨some 79,false,V.agg l.6⟩])∧
 (x4=false→
 ∀(x8:Bool),
 x8=(l.2==51)→
 (x8=true→
 r=V.tup []∧
 ks=
 [⟨none,false,(lkV l 1000)⟩,
 ⟨some 79,false,V.agg l.6⟩])∧
 (x8=false→
 ∀(x12:Bool),
 x12=(l.2==5)→
 (x12=true→
 ∃l15,
 (lkV l 1000)=
 (lkV l15 1000)∧
 l.6=l15.6∧
 Int.ofNat 0≤0∧
 (0:Int)<↑(List.length l15.3)∧
 ∃t16 n9017 ls15,
 getV l15.3 0=V.agg [.int .i64 t16,.int .i64 n9017,.list false ls15]∧
 1=List.length [V.int .i64 n9017]∧
 ∃l19,
 (lkV l 1000)=
 (lkV l19 1000)∧
 l.6=l19.6∧
 LOk l19∧
 NLs [V.int .i64 n9017]∧
 List.length [V.int .i64 n9017]≤1000∧
 List.length l19.6≤5000∧
 ∃f20:Nat→Int×Int,
 (arrF 16 (FS.f (LK.s l)))=
 (arrF 16 f20)∧
 ∀(l'21:LK),
 l'21=edgeL l19 ⟨f20,(LK.s l).2,(LK.s l).3,(LK.s l).4,(LK.s l).5⟩ [V.int .i64 n9017]→
 r=V.tup []∧
 ks=
 [⟨none,false,(lkV l'21 1000)⟩,
 ⟨some 79,false,V.agg l'21.6⟩])∧
 (x12=false→
 ∀(x24:Bool),
 x24=decide (l.2≥48)→
 (x24=true→
 ∃l27,
 (lkV l 1000)=
 (lkV l27 1000)∧
 l.6=l27.6∧
 LOk l27∧
 ArgL l.3∧
 List.length l.3≤100000∧
 ∀(q28:Int×Int),
 q28=srcLast l27 (0,0) l.3→
 ∀(l'30:LK),
 l'30=srcL l27 l.3→
 r=V.tup []∧
 ks=
 [⟨none,false,(lkV l'30 1000)⟩,
 ⟨some 79,false,V.agg l'30.6⟩])∧
 (x24=false→
 ∀(x33:Bool),
 x33=decide (l.2≥6)→
 (x33=true→
 ∀(x36:Bool),
 x36=decide (l.2≤11)→
 (x36=true→
 ∃l39,
 (lkV l 1000)=
 (lkV l39 1000)∧
 l.6=l39.6∧
 (GOk l39∧(l39.2=6∨l39.2=7∨l39.2=8∨l39.2=9∨l39.2=10∨l39.2=11))∧
 ∀(l'40:LK),
 l'40=callsG l39→
 r=V.tup []∧
 ks=
 [⟨none,false,(lkV l'40 1000)⟩,
 ⟨some 79,false,V.agg l'40.6⟩])∧
 (x36=false→
 ∀(x43:Bool),
 x43=decide (l.2≥12)→
 (x43=true→
 ∀(x46:Bool),
 x46=decide (l.2≤16)→
 (x46=true→
 ∃l49,
 (lkV l 1000)=
 (lkV l49 1000)∧
 l.6=l49.6∧
 (GOk l49∧(l49.2=12∨l49.2=13∨l49.2=14∨l49.2=15∨l49.2=16))∧
 ∀(l'50:LK),
 l'50=framesG l49→
 r=V.tup []∧
 ks=
 [⟨none,false,(lkV l'50 1000)⟩,
 ⟨some 79,false,V.agg l'50.6⟩])∧
 (x46=false→
 ∀(x53:Bool),
 x53=decide (l.2≥21)→
 (x53=true→
 ∀(x56:Bool),
 x56=decide (l.2≤33)→
 (x56=true→
 ∃l59,
 (lkV l 1000)=
 (lkV l59 1000)∧
 l.6=l59.6∧
 (GOk l59∧(l59.2=33∨l59.2=29∨l59.2=30∨l59.2=31∨l59.2=32∨l59.2=28∨l59.2=21∨l59.2=22∨l59.2=23∨l59.2=24∨l59.2=25∨l59.2=26∨l59.2=27))∧
 ∀(l'60:LK),
 l'60=testsG l59→
 r=V.tup []∧
 ks=
 [⟨none,false,(lkV l'60 1000)⟩,
 ⟨some 79,false,V.agg l'60.6⟩])∧
 (x56=false→
 ∀(x63:Bool),
 x63=decide (l.2≥35)→
 (x63=true→
 ∀(x66:Bool),
 x66=decide (l.2≤37)→
 (x66=true→
 ∃l69,
 (lkV l 1000)=
 (lkV l69 1000)∧
 l.6=l69.6∧
 (GOk l69∧(l69.2=35∨l69.2=36∨l69.2=37))∧
 ∀(l'70:LK),
 l'70=reckonsG l69→
 r=V.tup []∧
 ks=
 [⟨none,false,(lkV l'70 1000)⟩,
 ⟨some 79,false,V.agg l'70.6⟩])∧
 (x66=false→
 ∀(x73:Bool),
 x73=decide (l.2≥38)→
 (x73=true→
 ∀(x76:Bool),
 x76=decide (l.2≤42)→
 (x76=true→
 ∃l79,
 (lkV l 1000)=
 (lkV l79 1000)∧
 l.6=l79.6∧
 (GOk l79∧(l79.2=38∨l79.2=39∨l79.2=40∨l79.2=41∨l79.2=42))∧
 ∀(l'80:LK),
 l'80=yA l79→
 r=V.tup []∧
 ks=
 [⟨none,false,(lkV l'80 1000)⟩,
 ⟨some 79,false,V.agg l'80.6⟩])∧
 (x76=false→
 ∀(x83:Bool),
 x83=(l.2==45)→
 (x83=true→
 ∃l86,
 (lkV l 1000)=
 (lkV l86 1000)∧
 l.6=l86.6∧
 (GOk l86∧(l86.2=45∨l86.2=46∨l86.2=47))∧
 ∀(l'87:LK),
 l'87=zX l86→
 r=V.tup []∧
 ks=
 [⟨none,false,(lkV l'87 1000)⟩,
 ⟨some 79,false,V.agg l'87.6⟩])∧
 (x83=false→
 ∀(x90:Bool),
 x90=(l.2==46)→
 (x90=true→
 ∃l93,
 (lkV l 1000)=
 (lkV l93 1000)∧
 l.6=l93.6∧
 (GOk l93∧(l93.2=45∨l93.2=46∨l93.2=47))∧
 ∀(l'94:LK),
 l'94=zX l93→
 r=V.tup []∧
 ks=
 [⟨none,false,(lkV l'94 1000)⟩,
 ⟨some 79,false,V.agg l'94.6⟩])∧
 (x90=false→
 ∀(x97:Bool),
 x97=(l.2==47)→
 (x97=true→
 ∃l100,
 (lkV l 1000)=
 (lkV l100 1000)∧
 l.6=l100.6∧
 (GOk l100∧(l100.2=45∨l100.2=46∨l100.2=47))∧
 ∀(l'101:LK),
 l'101=zX l100→
 r=V.tup []∧
 ks=
 [⟨none,false,(lkV l'101 1000)⟩,
 ⟨some 79,false,V.agg l'101.6⟩])∧
 (x97=false→
 ∃l104,
 (lkV l 1000)=
 (lkV l104 1000)∧
 l.6=l104.6∧
 (GOk l104∧(l104.2=4∨l104.2=34∨l104.2=17∨l104.2=18∨l104.2=19∨l104.2=20∨l104.2=43∨l104.2=44))∧
 ∀(l'105:LK),
 l'105=makesG l104→
 r=V.tup []∧
 ks=
 [⟨none,false,(lkV l'105 1000)⟩,
 ⟨some 79,false,V.agg l'105.6⟩])))))∧
 (x73=false→
 ∀(x108:Bool),
 x108=(l.2==45)→
 (x108=true→
 ∃l111,
 (lkV l 1000)=
 (lkV l111 1000)∧
 l.6=l111.6∧
 (GOk l111∧(l111.2=45∨l111.2=46∨l111.2=47))∧
 ∀(l'112:LK),
 l'112=zX l111→
 r=V.tup []∧
 ks=
 [⟨none,false,(lkV l'112 1000)⟩,
 ⟨some 79,false,V.agg l'112.6⟩])∧
 (x108=false→
 ∀(x115:Bool),
 x115=(l.2==46)→
 (x115=true→
 ∃l118,
 (lkV l 1000)=
 (lkV l118 1000)∧
 l.6=l118.6∧
 (GOk l118∧(l118.2=45∨l118.2=46∨l118.2=47))∧
 ∀(l'119:LK),
 l'119=zX l118→
 r=V.tup []∧
 ks=
 [⟨none,false,(lkV l'119 1000)⟩,
 ⟨some 79,false,V.agg l'119.6⟩])∧
 (x115=false→
 ∀(x122:Bool),
 x122=(l.2==47)→
 (x122=true→
 ∃l125,
 (lkV l 1000)=
 (lkV l125 1000)∧
 l.6=l125.6∧
 (GOk l125∧(l125.2=45∨l125.2=46∨l125.2=47))∧
 ∀(l'126:LK),
 l'126=zX l125→
 r=V.tup []∧
 ks=
 [⟨none,false,(lkV l'126 1000)⟩,
 ⟨some 79,false,V.agg l'126.6⟩])∧
 (x122=false→
 ∃l129,
 (lkV l 1000)=
 (lkV l129 1000)∧
 l.6=l129.6∧
 (GOk l129∧(l129.2=4∨l129.2=34∨l129.2=17∨l129.2=18∨l129.2=19∨l129.2=20∨l129.2=43∨l129.2=44))∧
 ∀(l'130:LK),
 l'130=makesG l129→
 r=V.tup []∧
 ks=
 [⟨none,false,(lkV l'130 1000)⟩,
 ⟨some 79,false,V.agg l'130.6⟩]))))))∧
 (x63=false→
 ∀(x133:Bool),
 x133=decide (l.2≥38)→
 (x133=true→
 ∀(x136:Bool),
 x136=decide (l.2≤42)→
 (x136=true→
 ∃l139,
 (lkV l 1000)=
 (lkV l139 1000)∧
 l.6=l139.6∧
 (GOk l139∧(l139.2=38∨l139.2=39∨l139.2=40∨l139.2=41∨l139.2=42))∧
 ∀(l'140:LK),
 l'140=yA l139→
 r=V.tup []∧
 ks=
 [⟨none,false,(lkV l'140 1000)⟩,
 ⟨some 79,false,V.agg l'140.6⟩])∧
 (x136=false→
 ∀(x143:Bool),
 x143=(l.2==45)→
 (x143=true→
 ∃l146,
 (lkV l 1000)=
 (lkV l146 1000)∧
 l.6=l146.6∧
 (GOk l146∧(l146.2=45∨l146.2=46∨l146.2=47))∧
 ∀(l'147:LK),
 l'147=zX l146→
 r=V.tup []∧
 ks=
 [⟨none,false,(lkV l'147 1000)⟩,
 ⟨some 79,false,V.agg l'147.6⟩])∧
 (x143=false→
 ∀(x150:Bool),
 x150=(l.2==46)→
 (x150=true→
 ∃l153,
 (lkV l 1000)=
 (lkV l153 1000)∧
 l.6=l153.6∧
 (GOk l153∧(l153.2=45∨l153.2=46∨l153.2=47))∧
 ∀(l'154:LK),
 l'154=zX l153→
 r=V.tup []∧
 ks=
 [⟨none,false,(lkV l'154 1000)⟩,
 ⟨some 79,false,V.agg l'154.6⟩])∧
 (x150=false→
 ∀(x157:Bool),
 x157=(l.2==47)→
 (x157=true→
 ∃l160,
 (lkV l 1000)=
 (lkV l160 1000)∧
 l.6=l160.6∧
 (GOk l160∧(l160.2=45∨l160.2=46∨l160.2=47))∧
 ∀(l'161:LK),
 l'161=zX l160→
 r=V.tup []∧
 ks=
 [⟨none,false,(lkV l'161 1000)⟩,
 ⟨some 79,false,V.agg l'161.6⟩])∧
 (x157=false→
 ∃l164,
 (lkV l 1000)=
 (lkV l164 1000)∧
 l.6=l164.6∧
 (GOk l164∧(l164.2=4∨l164.2=34∨l164.2=17∨l164.2=18∨l164.2=19∨l164.2=20∨l164.2=43∨l164.2=44))∧
 ∀(l'165:LK),
 l'165=makesG l164→
 r=V.tup []∧
 ks=
 [⟨none,false,(lkV l'165 1000)⟩,
 ⟨some 79,false,V.agg l'165.6⟩])))))∧
 (x133=false→
 ∀(x168:Bool),
 x168=(l.2==45)→
 (x168=true→
 ∃l171,
 (lkV l 1000)=
 (lkV l171 1000)∧
 l.6=l171.6∧
 (GOk l171∧(l171.2=45∨l171.2=46∨l171.2=47))∧
 ∀(l'172:LK),
 l'172=zX l171→
 r=V.tup []∧
 ks=
 [⟨none,false,(lkV l'172 1000)⟩,
 ⟨some 79,false,V.agg l'172.6⟩])∧
 (x168=false→
 ∀(x175:Bool),
 x175=(l.2==46)→
 (x175=true→
 ∃l178,
 (lkV l 1000)=
 (lkV l178 1000)∧
 l.6=l178.6∧
 (GOk l178∧(l178.2=45∨l178.2=46∨l178.2=47))∧
 ∀(l'179:LK),
 l'179=zX l178→
 r=V.tup []∧
 ks=
 [⟨none,false,(lkV l'179 1000)⟩,
 ⟨some 79,false,V.agg l'179.6⟩])∧
 (x175=false→
 ∀(x182:Bool),
 x182=(l.2==47)→
 (x182=true→
 ∃l185,
 (lkV l 1000)=
 (lkV l185 1000)∧
 l.6=l185.6∧
 (GOk l185∧(l185.2=45∨l185.2=46∨l185.2=47))∧
 ∀(l'186:LK),
 l'186=zX l185→
 r=V.tup []∧
 ks=
 [⟨none,false,(lkV l'186 1000)⟩,
 ⟨some 79,false,V.agg l'186.6⟩])∧
 (x182=false→
 ∃l189,
 (lkV l 1000)=
 (lkV l189 1000)∧
 l.6=l189.6∧
 (GOk l189∧(l189.2=4∨l189.2=34∨l189.2=17∨l189.2=18∨l189.2=19∨l189.2=20∨l189.2=43∨l189.2=44))∧
 ∀(l'190:LK),
 l'190=makesG l189→
 r=V.tup []∧
 ks=
 [⟨none,false,(lkV l'190 1000)⟩,
 ⟨some 79,false,V.agg l'190.6⟩])))))))∧
 (x53=false→
 ∀(x193:Bool),
 x193=decide (l.2≥35)→
 (x193=true→
 ∀(x196:Bool),
 x196=decide (l.2≤37)→
 (x196=true→
 ∃l199,
 (lkV l 1000)=
 (lkV l199 1000)∧
 l.6=l199.6∧
 (GOk l199∧(l199.2=35∨l199.2=36∨l199.2=37))∧
 ∀(l'200:LK),
 l'200=reckonsG l199→
 r=V.tup []∧
 ks=
 [⟨none,false,(lkV l'200 1000)⟩,
 ⟨some 79,false,V.agg l'200.6⟩])∧
 (x196=false→
 ∀(x203:Bool),
 x203=decide (l.2≥38)→
 (x203=true→
 ∀(x206:Bool),
 x206=decide (l.2≤42)→
 (x206=true→
 ∃l209,
 (lkV l 1000)=
 (lkV l209 1000)∧
 l.6=l209.6∧
 (GOk l209∧(l209.2=38∨l209.2=39∨l209.2=40∨l209.2=41∨l209.2=42))∧
 ∀(l'210:LK),
 l'210=yA l209→
 r=V.tup []∧
 ks=
 [⟨none,false,(lkV l'210 1000)⟩,
 ⟨some 79,false,V.agg l'210.6⟩])∧
 (x206=false→
 ∀(x213:Bool),
 x213=(l.2==45)→
 (x213=true→
 ∃l216,
 (lkV l 1000)=
 (lkV l216 1000)∧
 l.6=l216.6∧
 (GOk l216∧(l216.2=45∨l216.2=46∨l216.2=47))∧
 ∀(l'217:LK),
 l'217=zX l216→
 r=V.tup []∧
 ks=
 [⟨none,false,(lkV l'217 1000)⟩,
 ⟨some 79,false,V.agg l'217.6⟩])∧
 (x213=false→
 ∀(x220:Bool),
 x220=(l.2==46)→
 (x220=true→
 ∃l223,
 (lkV l 1000)=
 (lkV l223 1000)∧
 l.6=l223.6∧
 (GOk l223∧(l223.2=45∨l223.2=46∨l223.2=47))∧
 ∀(l'224:LK),
 l'224=zX l223→
 r=V.tup []∧
 ks=
 [⟨none,false,(lkV l'224 1000)⟩,
 ⟨some 79,false,V.agg l'224.6⟩])∧
 (x220=false→
 ∀(x227:Bool),
 x227=(l.2==47)→
 (x227=true→
 ∃l230,
 (lkV l 1000)=
 (lkV l230 1000)∧
 l.6=l230.6∧
 (GOk l230∧(l230.2=45∨l230.2=46∨l230.2=47))∧
 ∀(l'231:LK),
 l'231=zX l230→
 r=V.tup []∧
 ks=
 [⟨none,false,(lkV l'231 1000)⟩,
 ⟨some 79,false,V.agg l'231.6⟩])∧
 (x227=false→
 ∃l234,
 (lkV l 1000)=
 (lkV l234 1000)∧
 l.6=l234.6∧
 (GOk l234∧(l234.2=4∨l234.2=34∨l234.2=17∨l234.2=18∨l234.2=19∨l234.2=20∨l234.2=43∨l234.2=44))∧
 ∀(l'235:LK),
 l'235=makesG l234→
 r=V.tup []∧
 ks=
 [⟨none,false,(lkV l'235 1000)⟩,
 ⟨some 79,false,V.agg l'235.6⟩])))))∧
 (x203=false→
 ∀(x238:Bool),
 x238=(l.2==45)→
 (x238=true→
 ∃l241,
 (lkV l 1000)=
 (lkV l241 1000)∧
 l.6=l241.6∧
 (GOk l241∧(l241.2=45∨l241.2=46∨l241.2=47))∧
 ∀(l'242:LK),
 l'242=zX l241→
 r=V.tup []∧
 ks=
 [⟨none,false,(lkV l'242 1000)⟩,
 ⟨some 79,false,V.agg l'242.6⟩])∧
 (x238=false→
 ∀(x245:Bool),
 x245=(l.2==46)→
 (x245=true→
 ∃l248,
 (lkV l 1000)=
 (lkV l248 1000)∧
 l.6=l248.6∧
 (GOk l248∧(l248.2=45∨l248.2=46∨l248.2=47))∧
 ∀(l'249:LK),
 l'249=zX l248→
 r=V.tup []∧
 ks=
 [⟨none,false,(lkV l'249 1000)⟩,
 ⟨some 79,false,V.agg l'249.6⟩])∧
 (x245=false→
 ∀(x252:Bool),
 x252=(l.2==47)→
 (x252=true→
 ∃l255,
 (lkV l 1000)=
 (lkV l255 1000)∧
 l.6=l255.6∧
 (GOk l255∧(l255.2=45∨l255.2=46∨l255.2=47))∧
 ∀(l'256:LK),
 l'256=zX l255→
 r=V.tup []∧
 ks=
 [⟨none,false,(lkV l'256 1000)⟩,
 ⟨some 79,false,V.agg l'256.6⟩])∧
 (x252=false→
 ∃l259,
 (lkV l 1000)=
 (lkV l259 1000)∧
 l.6=l259.6∧
 (GOk l259∧(l259.2=4∨l259.2=34∨l259.2=17∨l259.2=18∨l259.2=19∨l259.2=20∨l259.2=43∨l259.2=44))∧
 ∀(l'260:LK),
 l'260=makesG l259→
 r=V.tup []∧
 ks=
 [⟨none,false,(lkV l'260 1000)⟩,
 ⟨some 79,false,V.agg l'260.6⟩]))))))∧
 (x193=false→
 ∀(x263:Bool),
 x263=decide (l.2≥38)→
 (x263=true→
 ∀(x266:Bool),
 x266=decide (l.2≤42)→
 (x266=true→
 ∃l269,
 (lkV l 1000)=
 (lkV l269 1000)∧
 l.6=l269.6∧
 (GOk l269∧(l269.2=38∨l269.2=39∨l269.2=40∨l269.2=41∨l269.2=42))∧
 ∀(l'270:LK),
 l'270=yA l269→
 r=V.tup []∧
 ks=
 [⟨none,false,(lkV l'270 1000)⟩,
 ⟨some 79,false,V.agg l'270.6⟩])∧
 (x266=false→
 ∀(x273:Bool),
 x273=(l.2==45)→
 (x273=true→
 ∃l276,
 (lkV l 1000)=
 (lkV l276 1000)∧
 l.6=l276.6∧
 (GOk l276∧(l276.2=45∨l276.2=46∨l276.2=47))∧
 ∀(l'277:LK),
 l'277=zX l276→
 r=V.tup []∧
 ks=
 [⟨none,false,(lkV l'277 1000)⟩,
 ⟨some 79,false,V.agg l'277.6⟩])∧
 (x273=false→
 ∀(x280:Bool),
 x280=(l.2==46)→
 (x280=true→
 ∃l283,
 (lkV l 1000)=
 (lkV l283 1000)∧
 l.6=l283.6∧
 (GOk l283∧(l283.2=45∨l283.2=46∨l283.2=47))∧
 ∀(l'284:LK),
 l'284=zX l283→
 r=V.tup []∧
 ks=
 [⟨none,false,(lkV l'284 1000)⟩,
 ⟨some 79,false,V.agg l'284.6⟩])∧
 (x280=false→
 ∀(x287:Bool),
 x287=(l.2==47)→
 (x287=true→
 ∃l290,
 (lkV l 1000)=
 (lkV l290 1000)∧
 l.6=l290.6∧
 (GOk l290∧(l290.2=45∨l290.2=46∨l290.2=47))∧
 ∀(l'291:LK),
 l'291=zX l290→
 r=V.tup []∧
 ks=
 [⟨none,false,(lkV l'291 1000)⟩,
 ⟨some 79,false,V.agg l'291.6⟩])∧
 (x287=false→
 ∃l294,
 (lkV l 1000)=
 (lkV l294 1000)∧
 l.6=l294.6∧
 (GOk l294∧(l294.2=4∨l294.2=34∨l294.2=17∨l294.2=18∨l294.2=19∨l294.2=20∨l294.2=43∨l294.2=44))∧
 ∀(l'295:LK),
 l'295=makesG l294→
 r=V.tup []∧
 ks=
 [⟨none,false,(lkV l'295 1000)⟩,
 ⟨some 79,false,V.agg l'295.6⟩])))))∧
 (x263=false→
 ∀(x298:Bool),
 x298=(l.2==45)→
 (x298=true→
 ∃l301,
 (lkV l 1000)=
 (lkV l301 1000)∧
 l.6=l301.6∧
 (GOk l301∧(l301.2=45∨l301.2=46∨l301.2=47))∧
 ∀(l'302:LK),
 l'302=zX l301→
 r=V.tup []∧
 ks=
 [⟨none,false,(lkV l'302 1000)⟩,
 ⟨some 79,false,V.agg l'302.6⟩])∧
 (x298=false→
 ∀(x305:Bool),
 x305=(l.2==46)→
 (x305=true→
 ∃l308,
 (lkV l 1000)=
 (lkV l308 1000)∧
 l.6=l308.6∧
 (GOk l308∧(l308.2=45∨l308.2=46∨l308.2=47))∧
 ∀(l'309:LK),
 l'309=zX l308→
 r=V.tup []∧
 ks=
 [⟨none,false,(lkV l'309 1000)⟩,
 ⟨some 79,false,V.agg l'309.6⟩])∧
 (x305=false→
 ∀(x312:Bool),
 x312=(l.2==47)→
 (x312=true→
 ∃l315,
 (lkV l 1000)=
 (lkV l315 1000)∧
 l.6=l315.6∧
 (GOk l315∧(l315.2=45∨l315.2=46∨l315.2=47))∧
 ∀(l'316:LK),
 l'316=zX l315→
 r=V.tup []∧
 ks=
 [⟨none,false,(lkV l'316 1000)⟩,
 ⟨some 79,false,V.agg l'316.6⟩])∧
 (x312=false→
 ∃l319,
 (lkV l 1000)=
 (lkV l319 1000)∧
 l.6=l319.6∧
 (GOk l319∧(l319.2=4∨l319.2=34∨l319.2=17∨l319.2=18∨l319.2=19∨l319.2=20∨l319.2=43∨l319.2=44))∧
 ∀(l'320:LK),
 l'320=makesG l319→
 r=V.tup []∧
 ks=
 [⟨none,false,(lkV l'320 1000)⟩,
 ⟨some 79,false,V.agg l'320.6⟩]))))))))∧
 (x43=false→
 ∀(x323:Bool),
 x323=decide (l.2≥21)→
 (x323=true→
 ∀(x326:Bool),
 x326=decide (l.2≤33)→
 (x326=true→
 ∃l329,
 (lkV l 1000)=
 (lkV l329 1000)∧
 l.6=l329.6∧
 (GOk l329∧(l329.2=33∨l329.2=29∨l329.2=30∨l329.2=31∨l329.2=32∨l329.2=28∨l329.2=21∨l329.2=22∨l329.2=23∨l329.2=24∨l329.2=25∨l329.2=26∨l329.2=27))∧
 ∀(l'330:LK),
 l'330=testsG l329→
 r=V.tup []∧
 ks=
 [⟨none,false,(lkV l'330 1000)⟩,
 ⟨some 79,false,V.agg l'330.6⟩])∧
 (x326=false→
 ∀(x333:Bool),
 x333=decide (l.2≥35)→
 (x333=true→
 ∀(x336:Bool),
 x336=decide (l.2≤37)→
 (x336=true→
 ∃l339,
 (lkV l 1000)=
 (lkV l339 1000)∧
 l.6=l339.6∧
 (GOk l339∧(l339.2=35∨l339.2=36∨l339.2=37))∧
 ∀(l'340:LK),
 l'340=reckonsG l339→
 r=V.tup []∧
 ks=
 [⟨none,false,(lkV l'340 1000)⟩,
 ⟨some 79,false,V.agg l'340.6⟩])∧
 (x336=false→
 ∀(x343:Bool),
 x343=decide (l.2≥38)→
 (x343=true→
 ∀(x346:Bool),
 x346=decide (l.2≤42)→
 (x346=true→
 ∃l349,
 (lkV l 1000)=
 (lkV l349 1000)∧
 l.6=l349.6∧
 (GOk l349∧(l349.2=38∨l349.2=39∨l349.2=40∨l349.2=41∨l349.2=42))∧
 ∀(l'350:LK),
 l'350=yA l349→
 r=V.tup []∧
 ks=
 [⟨none,false,(lkV l'350 1000)⟩,
 ⟨some 79,false,V.agg l'350.6⟩])∧
 (x346=false→
 ∀(x353:Bool),
 x353=(l.2==45)→
 (x353=true→
 ∃l356,
 (lkV l 1000)=
 (lkV l356 1000)∧
 l.6=l356.6∧
 (GOk l356∧(l356.2=45∨l356.2=46∨l356.2=47))∧
 ∀(l'357:LK),
 l'357=zX l356→
 r=V.tup []∧
 ks=
 [⟨none,false,(lkV l'357 1000)⟩,
 ⟨some 79,false,V.agg l'357.6⟩])∧
 (x353=false→
 ∀(x360:Bool),
 x360=(l.2==46)→
 (x360=true→
 ∃l363,
 (lkV l 1000)=
 (lkV l363 1000)∧
 l.6=l363.6∧
 (GOk l363∧(l363.2=45∨l363.2=46∨l363.2=47))∧
 ∀(l'364:LK),
 l'364=zX l363→
 r=V.tup []∧
 ks=
 [⟨none,false,(lkV l'364 1000)⟩,
 ⟨some 79,false,V.agg l'364.6⟩])∧
 (x360=false→
 ∀(x367:Bool),
 x367=(l.2==47)→
 (x367=true→
 ∃l370,
 (lkV l 1000)=
 (lkV l370 1000)∧
 l.6=l370.6∧
 (GOk l370∧(l370.2=45∨l370.2=46∨l370.2=47))∧
 ∀(l'371:LK),
 l'371=zX l370→
 r=V.tup []∧
 ks=
 [⟨none,false,(lkV l'371 1000)⟩,
 ⟨some 79,false,V.agg l'371.6⟩])∧
 (x367=false→
 ∃l374,
 (lkV l 1000)=
 (lkV l374 1000)∧
 l.6=l374.6∧
 (GOk l374∧(l374.2=4∨l374.2=34∨l374.2=17∨l374.2=18∨l374.2=19∨l374.2=20∨l374.2=43∨l374.2=44))∧
 ∀(l'375:LK),
 l'375=makesG l374→
 r=V.tup []∧
 ks=
 [⟨none,false,(lkV l'375 1000)⟩,
 ⟨some 79,false,V.agg l'375.6⟩])))))∧
 (x343=false→
 ∀(x378:Bool),
 x378=(l.2==45)→
 (x378=true→
 ∃l381,
 (lkV l 1000)=
 (lkV l381 1000)∧
 l.6=l381.6∧
 (GOk l381∧(l381.2=45∨l381.2=46∨l381.2=47))∧
 ∀(l'382:LK),
 l'382=zX l381→
 r=V.tup []∧
 ks=
 [⟨none,false,(lkV l'382 1000)⟩,
 ⟨some 79,false,V.agg l'382.6⟩])∧
 (x378=false→
 ∀(x385:Bool),
 x385=(l.2==46)→
 (x385=true→
 ∃l388,
 (lkV l 1000)=
 (lkV l388 1000)∧
 l.6=l388.6∧
 (GOk l388∧(l388.2=45∨l388.2=46∨l388.2=47))∧
 ∀(l'389:LK),
 l'389=zX l388→
 r=V.tup []∧
 ks=
 [⟨none,false,(lkV l'389 1000)⟩,
 ⟨some 79,false,V.agg l'389.6⟩])∧
 (x385=false→
 ∀(x392:Bool),
 x392=(l.2==47)→
 (x392=true→
 ∃l395,
 (lkV l 1000)=
 (lkV l395 1000)∧
 l.6=l395.6∧
 (GOk l395∧(l395.2=45∨l395.2=46∨l395.2=47))∧
 ∀(l'396:LK),
 l'396=zX l395→
 r=V.tup []∧
 ks=
 [⟨none,false,(lkV l'396 1000)⟩,
 ⟨some 79,false,V.agg l'396.6⟩])∧
 (x392=false→
 ∃l399,
 (lkV l 1000)=
 (lkV l399 1000)∧
 l.6=l399.6∧
 (GOk l399∧(l399.2=4∨l399.2=34∨l399.2=17∨l399.2=18∨l399.2=19∨l399.2=20∨l399.2=43∨l399.2=44))∧
 ∀(l'400:LK),
 l'400=makesG l399→
 r=V.tup []∧
 ks=
 [⟨none,false,(lkV l'400 1000)⟩,
 ⟨some 79,false,V.agg l'400.6⟩]))))))∧
 (x333=false→
 ∀(x403:Bool),
 x403=decide (l.2≥38)→
 (x403=true→
 ∀(x406:Bool),
 x406=decide (l.2≤42)→
 (x406=true→
 ∃l409,
 (lkV l 1000)=
 (lkV l409 1000)∧
 l.6=l409.6∧
 (GOk l409∧(l409.2=38∨l409.2=39∨l409.2=40∨l409.2=41∨l409.2=42))∧
 ∀(l'410:LK),
 l'410=yA l409→
 r=V.tup []∧
 ks=
 [⟨none,false,(lkV l'410 1000)⟩,
 ⟨some 79,false,V.agg l'410.6⟩])∧
 (x406=false→
 ∀(x413:Bool),
 x413=(l.2==45)→
 (x413=true→
 ∃l416,
 (lkV l 1000)=
 (lkV l416 1000)∧
 l.6=l416.6∧
 (GOk l416∧(l416.2=45∨l416.2=46∨l416.2=47))∧
 ∀(l'417:LK),
 l'417=zX l416→
 r=V.tup []∧
 ks=
 [⟨none,false,(lkV l'417 1000)⟩,
 ⟨some 79,false,V.agg l'417.6⟩])∧
 (x413=false→
 ∀(x420:Bool),
 x420=(l.2==46)→
 (x420=true→
 ∃l423,
 (lkV l 1000)=
 (lkV l423 1000)∧
 l.6=l423.6∧
 (GOk l423∧(l423.2=45∨l423.2=46∨l423.2=47))∧
 ∀(l'424:LK),
 l'424=zX l423→
 r=V.tup []∧
 ks=
 [⟨none,false,(lkV l'424 1000)⟩,
 ⟨some 79,false,V.agg l'424.6⟩])∧
 (x420=false→
 ∀(x427:Bool),
 x427=(l.2==47)→
 (x427=true→
 ∃l430,
 (lkV l 1000)=
 (lkV l430 1000)∧
 l.6=l430.6∧
 (GOk l430∧(l430.2=45∨l430.2=46∨l430.2=47))∧
 ∀(l'431:LK),
 l'431=zX l430→
 r=V.tup []∧
 ks=
 [⟨none,false,(lkV l'431 1000)⟩,
 ⟨some 79,false,V.agg l'431.6⟩])∧
 (x427=false→
 ∃l434,
 (lkV l 1000)=
 (lkV l434 1000)∧
 l.6=l434.6∧
 (GOk l434∧(l434.2=4∨l434.2=34∨l434.2=17∨l434.2=18∨l434.2=19∨l434.2=20∨l434.2=43∨l434.2=44))∧
 ∀(l'435:LK),
 l'435=makesG l434→
 r=V.tup []∧
 ks=
 [⟨none,false,(lkV l'435 1000)⟩,
 ⟨some 79,false,V.agg l'435.6⟩])))))∧
 (x403=false→
 ∀(x438:Bool),
 x438=(l.2==45)→
 (x438=true→
 ∃l441,
 (lkV l 1000)=
 (lkV l441 1000)∧
 l.6=l441.6∧
 (GOk l441∧(l441.2=45∨l441.2=46∨l441.2=47))∧
 ∀(l'442:LK),
 l'442=zX l441→
 r=V.tup []∧
 ks=
 [⟨none,false,(lkV l'442 1000)⟩,
 ⟨some 79,false,V.agg l'442.6⟩])∧
 (x438=false→
 ∀(x445:Bool),
 x445=(l.2==46)→
 (x445=true→
 ∃l448,
 (lkV l 1000)=
 (lkV l448 1000)∧
 l.6=l448.6∧
 (GOk l448∧(l448.2=45∨l448.2=46∨l448.2=47))∧
 ∀(l'449:LK),
 l'449=zX l448→
 r=V.tup []∧
 ks=
 [⟨none,false,(lkV l'449 1000)⟩,
 ⟨some 79,false,V.agg l'449.6⟩])∧
 (x445=false→
 ∀(x452:Bool),
 x452=(l.2==47)→
 (x452=true→
 ∃l455,
 (lkV l 1000)=
 (lkV l455 1000)∧
 l.6=l455.6∧
 (GOk l455∧(l455.2=45∨l455.2=46∨l455.2=47))∧
 ∀(l'456:LK),
 l'456=zX l455→
 r=V.tup []∧
 ks=
 [⟨none,false,(lkV l'456 1000)⟩,
 ⟨some 79,false,V.agg l'456.6⟩])∧
 (x452=false→
 ∃l459,
 (lkV l 1000)=
 (lkV l459 1000)∧
 l.6=l459.6∧
 (GOk l459∧(l459.2=4∨l459.2=34∨l459.2=17∨l459.2=18∨l459.2=19∨l459.2=20∨l459.2=43∨l459.2=44))∧
 ∀(l'460:LK),
 l'460=makesG l459→
 r=V.tup []∧
 ks=
 [⟨none,false,(lkV l'460 1000)⟩,
 ⟨some 79,false,V.agg l'460.6⟩])))))))∧
 (x323=false→
 ∀(x463:Bool),
 x463=decide (l.2≥35)→
 (x463=true→
 ∀(x466:Bool),
 x466=decide (l.2≤37)→
 (x466=true→
 ∃l469,
 (lkV l 1000)=
 (lkV l469 1000)∧
 l.6=l469.6∧
 (GOk l469∧(l469.2=35∨l469.2=36∨l469.2=37))∧
 ∀(l'470:LK),
 l'470=reckonsG l469→
 r=V.tup []∧
 ks=
 [⟨none,false,(lkV l'470 1000)⟩,
 ⟨some 79,false,V.agg l'470.6⟩])∧
 (x466=false→
 ∀(x473:Bool),
 x473=decide (l.2≥38)→
 (x473=true→
 ∀(x476:Bool),
 x476=decide (l.2≤42)→
 (x476=true→
 ∃l479,
 (lkV l 1000)=
 (lkV l479 1000)∧
 l.6=l479.6∧
 (GOk l479∧(l479.2=38∨l479.2=39∨l479.2=40∨l479.2=41∨l479.2=42))∧
 ∀(l'480:LK),
 l'480=yA l479→
 r=V.tup []∧
 ks=
 [⟨none,false,(lkV l'480 1000)⟩,
 ⟨some 79,false,V.agg l'480.6⟩])∧
 (x476=false→
 ∀(x483:Bool),
 x483=(l.2==45)→
 (x483=true→
 ∃l486,
 (lkV l 1000)=
 (lkV l486 1000)∧
 l.6=l486.6∧
 (GOk l486∧(l486.2=45∨l486.2=46∨l486.2=47))∧
 ∀(l'487:LK),
 l'487=zX l486→
 r=V.tup []∧
 ks=
 [⟨none,false,(lkV l'487 1000)⟩,
 ⟨some 79,false,V.agg l'487.6⟩])∧
 (x483=false→
 ∀(x490:Bool),
 x490=(l.2==46)→
 (x490=true→
 ∃l493,
 (lkV l 1000)=
 (lkV l493 1000)∧
 l.6=l493.6∧
 (GOk l493∧(l493.2=45∨l493.2=46∨l493.2=47))∧
 ∀(l'494:LK),
 l'494=zX l493→
 r=V.tup []∧
 ks=
 [⟨none,false,(lkV l'494 1000)⟩,
 ⟨some 79,false,V.agg l'494.6⟩])∧
 (x490=false→
 ∀(x497:Bool),
 x497=(l.2==47)→
 (x497=true→
 ∃l500,
 (lkV l 1000)=
 (lkV l500 1000)∧
 l.6=l500.6∧
 (GOk l500∧(l500.2=45∨l500.2=46∨l500.2=47))∧
 ∀(l'501:LK),
 l'501=zX l500→
 r=V.tup []∧
 ks=
 [⟨none,false,(lkV l'501 1000)⟩,
 ⟨some 79,false,V.agg l'501.6⟩])∧
 (x497=false→
 ∃l504,
 (lkV l 1000)=
 (lkV l504 1000)∧
 l.6=l504.6∧
 (GOk l504∧(l504.2=4∨l504.2=34∨l504.2=17∨l504.2=18∨l504.2=19∨l504.2=20∨l504.2=43∨l504.2=44))∧
 ∀(l'505:LK),
 l'505=makesG l504→
 r=V.tup []∧
 ks=
 [⟨none,false,(lkV l'505 1000)⟩,
 ⟨some 79,false,V.agg l'505.6⟩])))))∧
 (x473=false→
 ∀(x508:Bool),
 x508=(l.2==45)→
 (x508=true→
 ∃l511,
 (lkV l 1000)=
 (lkV l511 1000)∧
 l.6=l511.6∧
 (GOk l511∧(l511.2=45∨l511.2=46∨l511.2=47))∧
 ∀(l'512:LK),
 l'512=zX l511→
 r=V.tup []∧
 ks=
 [⟨none,false,(lkV l'512 1000)⟩,
 ⟨some 79,false,V.agg l'512.6⟩])∧
 (x508=false→
 ∀(x515:Bool),
 x515=(l.2==46)→
 (x515=true→
 ∃l518,
 (lkV l 1000)=
 (lkV l518 1000)∧
 l.6=l518.6∧
 (GOk l518∧(l518.2=45∨l518.2=46∨l518.2=47))∧
 ∀(l'519:LK),
 l'519=zX l518→
 r=V.tup []∧
 ks=
 [⟨none,false,(lkV l'519 1000)⟩,
 ⟨some 79,false,V.agg l'519.6⟩])∧
 (x515=false→
 ∀(x522:Bool),
 x522=(l.2==47)→
 (x522=true→
 ∃l525,
 (lkV l 1000)=
 (lkV l525 1000)∧
 l.6=l525.6∧
 (GOk l525∧(l525.2=45∨l525.2=46∨l525.2=47))∧
 ∀(l'526:LK),
 l'526=zX l525→
 r=V.tup []∧
 ks=
 [⟨none,false,(lkV l'526 1000)⟩,
 ⟨some 79,false,V.agg l'526.6⟩])∧
 (x522=false→
 ∃l529,
 (lkV l 1000)=
 (lkV l529 1000)∧
 l.6=l529.6∧
 (GOk l529∧(l529.2=4∨l529.2=34∨l529.2=17∨l529.2=18∨l529.2=19∨l529.2=20∨l529.2=43∨l529.2=44))∧
 ∀(l'530:LK),
 l'530=makesG l529→
 r=V.tup []∧
 ks=
 [⟨none,false,(lkV l'530 1000)⟩,
 ⟨some 79,false,V.agg l'530.6⟩]))))))∧
 (x463=false→
 ∀(x533:Bool),
 x533=decide (l.2≥38)→
 (x533=true→
 ∀(x536:Bool),
 x536=decide (l.2≤42)→
 (x536=true→
 ∃l539,
 (lkV l 1000)=
 (lkV l539 1000)∧
 l.6=l539.6∧
 (GOk l539∧(l539.2=38∨l539.2=39∨l539.2=40∨l539.2=41∨l539.2=42))∧
 ∀(l'540:LK),
 l'540=yA l539→
 r=V.tup []∧
 ks=
 [⟨none,false,(lkV l'540 1000)⟩,
 ⟨some 79,false,V.agg l'540.6⟩])∧
 (x536=false→
 ∀(x543:Bool),
 x543=(l.2==45)→
 (x543=true→
 ∃l546,
 (lkV l 1000)=
 (lkV l546 1000)∧
 l.6=l546.6∧
 (GOk l546∧(l546.2=45∨l546.2=46∨l546.2=47))∧
 ∀(l'547:LK),
 l'547=zX l546→
 r=V.tup []∧
 ks=
 [⟨none,false,(lkV l'547 1000)⟩,
 ⟨some 79,false,V.agg l'547.6⟩])∧
 (x543=false→
 ∀(x550:Bool),
 x550=(l.2==46)→
 (x550=true→
 ∃l553,
 (lkV l 1000)=
 (lkV l553 1000)∧
 l.6=l553.6∧
 (GOk l553∧(l553.2=45∨l553.2=46∨l553.2=47))∧
 ∀(l'554:LK),
 l'554=zX l553→
 r=V.tup []∧
 ks=
 [⟨none,false,(lkV l'554 1000)⟩,
 ⟨some 79,false,V.agg l'554.6⟩])∧
 (x550=false→
 ∀(x557:Bool),
 x557=(l.2==47)→
 (x557=true→
 ∃l560,
 (lkV l 1000)=
 (lkV l560 1000)∧
 l.6=l560.6∧
 (GOk l560∧(l560.2=45∨l560.2=46∨l560.2=47))∧
 ∀(l'561:LK),
 l'561=zX l560→
 r=V.tup []∧
 ks=
 [⟨none,false,(lkV l'561 1000)⟩,
 ⟨some 79,false,V.agg l'561.6⟩])∧
 (x557=false→
 ∃l564,
 (lkV l 1000)=
 (lkV l564 1000)∧
 l.6=l564.6∧
 (GOk l564∧(l564.2=4∨l564.2=34∨l564.2=17∨l564.2=18∨l564.2=19∨l564.2=20∨l564.2=43∨l564.2=44))∧
 ∀(l'565:LK),
 l'565=makesG l564→
 r=V.tup []∧
 ks=
 [⟨none,false,(lkV l'565 1000)⟩,
 ⟨some 79,false,V.agg l'565.6⟩])))))∧
 (x533=false→
 ∀(x568:Bool),
 x568=(l.2==45)→
 (x568=true→
 ∃l571,
 (lkV l 1000)=
 (lkV l571 1000)∧
 l.6=l571.6∧
 (GOk l571∧(l571.2=45∨l571.2=46∨l571.2=47))∧
 ∀(l'572:LK),
 l'572=zX l571→
 r=V.tup []∧
 ks=
 [⟨none,false,(lkV l'572 1000)⟩,
 ⟨some 79,false,V.agg l'572.6⟩])∧
 (x568=false→
 ∀(x575:Bool),
 x575=(l.2==46)→
 (x575=true→
 ∃l578,
 (lkV l 1000)=
 (lkV l578 1000)∧
 l.6=l578.6∧
 (GOk l578∧(l578.2=45∨l578.2=46∨l578.2=47))∧
 ∀(l'579:LK),
 l'579=zX l578→
 r=V.tup []∧
 ks=
 [⟨none,false,(lkV l'579 1000)⟩,
 ⟨some 79,false,V.agg l'579.6⟩])∧
 (x575=false→
 ∀(x582:Bool),
 x582=(l.2==47)→
 (x582=true→
 ∃l585,
 (lkV l 1000)=
 (lkV l585 1000)∧
 l.6=l585.6∧
 (GOk l585∧(l585.2=45∨l585.2=46∨l585.2=47))∧
 ∀(l'586:LK),
 l'586=zX l585→
 r=V.tup []∧
 ks=
 [⟨none,false,(lkV l'586 1000)⟩,
 ⟨some 79,false,V.agg l'586.6⟩])∧
 (x582=false→
 ∃l589,
 (lkV l 1000)=
 (lkV l589 1000)∧
 l.6=l589.6∧
 (GOk l589∧(l589.2=4∨l589.2=34∨l589.2=17∨l589.2=18∨l589.2=19∨l589.2=20∨l589.2=43∨l589.2=44))∧
 ∀(l'590:LK),
 l'590=makesG l589→
 r=V.tup []∧
 ks=
 [⟨none,false,(lkV l'590 1000)⟩,
 ⟨some 79,false,V.agg l'590.6⟩])))))))))∧
 (x33=false→
 ∀(x593:Bool),
 x593=decide (l.2≥12)→
 (x593=true→
 ∀(x596:Bool),
 x596=decide (l.2≤16)→
 (x596=true→
 ∃l599,
 (lkV l 1000)=
 (lkV l599 1000)∧
 l.6=l599.6∧
 (GOk l599∧(l599.2=12∨l599.2=13∨l599.2=14∨l599.2=15∨l599.2=16))∧
 ∀(l'600:LK),
 l'600=framesG l599→
 r=V.tup []∧
 ks=
 [⟨none,false,(lkV l'600 1000)⟩,
 ⟨some 79,false,V.agg l'600.6⟩])∧
 (x596=false→
 ∀(x603:Bool),
 x603=decide (l.2≥21)→
 (x603=true→
 ∀(x606:Bool),
 x606=decide (l.2≤33)→
 (x606=true→
 ∃l609,
 (lkV l 1000)=
 (lkV l609 1000)∧
 l.6=l609.6∧
 (GOk l609∧(l609.2=33∨l609.2=29∨l609.2=30∨l609.2=31∨l609.2=32∨l609.2=28∨l609.2=21∨l609.2=22∨l609.2=23∨l609.2=24∨l609.2=25∨l609.2=26∨l609.2=27))∧
 ∀(l'610:LK),
 l'610=testsG l609→
 r=V.tup []∧
 ks=
 [⟨none,false,(lkV l'610 1000)⟩,
 ⟨some 79,false,V.agg l'610.6⟩])∧
 (x606=false→
 ∀(x613:Bool),
 x613=decide (l.2≥35)→
 (x613=true→
 ∀(x616:Bool),
 x616=decide (l.2≤37)→
 (x616=true→
 ∃l619,
 (lkV l 1000)=
 (lkV l619 1000)∧
 l.6=l619.6∧
 (GOk l619∧(l619.2=35∨l619.2=36∨l619.2=37))∧
 ∀(l'620:LK),
 l'620=reckonsG l619→
 r=V.tup []∧
 ks=
 [⟨none,false,(lkV l'620 1000)⟩,
 ⟨some 79,false,V.agg l'620.6⟩])∧
 (x616=false→
 ∀(x623:Bool),
 x623=decide (l.2≥38)→
 (x623=true→
 ∀(x626:Bool),
 x626=decide (l.2≤42)→
 (x626=true→
 ∃l629,
 (lkV l 1000)=
 (lkV l629 1000)∧
 l.6=l629.6∧
 (GOk l629∧(l629.2=38∨l629.2=39∨l629.2=40∨l629.2=41∨l629.2=42))∧
 ∀(l'630:LK),
 l'630=yA l629→
 r=V.tup []∧
 ks=
 [⟨none,false,(lkV l'630 1000)⟩,
 ⟨some 79,false,V.agg l'630.6⟩])∧
 (x626=false→
 ∀(x633:Bool),
 x633=(l.2==45)→
 (x633=true→
 ∃l636,
 (lkV l 1000)=
 (lkV l636 1000)∧
 l.6=l636.6∧
 (GOk l636∧(l636.2=45∨l636.2=46∨l636.2=47))∧
 ∀(l'637:LK),
 l'637=zX l636→
 r=V.tup []∧
 ks=
 [⟨none,false,(lkV l'637 1000)⟩,
 ⟨some 79,false,V.agg l'637.6⟩])∧
 (x633=false→
 ∀(x640:Bool),
 x640=(l.2==46)→
 (x640=true→
 ∃l643,
 (lkV l 1000)=
 (lkV l643 1000)∧
 l.6=l643.6∧
 (GOk l643∧(l643.2=45∨l643.2=46∨l643.2=47))∧
 ∀(l'644:LK),
 l'644=zX l643→
 r=V.tup []∧
 ks=
 [⟨none,false,(lkV l'644 1000)⟩,
 ⟨some 79,false,V.agg l'644.6⟩])∧
 (x640=false→
 ∀(x647:Bool),
 x647=(l.2==47)→
 (x647=true→
 ∃l650,
 (lkV l 1000)=
 (lkV l650 1000)∧
 l.6=l650.6∧
 (GOk l650∧(l650.2=45∨l650.2=46∨l650.2=47))∧
 ∀(l'651:LK),
 l'651=zX l650→
 r=V.tup []∧
 ks=
 [⟨none,false,(lkV l'651 1000)⟩,
 ⟨some 79,false,V.agg l'651.6⟩])∧
 (x647=false→
 ∃l654,
 (lkV l 1000)=
 (lkV l654 1000)∧
 l.6=l654.6∧
 (GOk l654∧(l654.2=4∨l654.2=34∨l654.2=17∨l654.2=18∨l654.2=19∨l654.2=20∨l654.2=43∨l654.2=44))∧
 ∀(l'655:LK),
 l'655=makesG l654→
 r=V.tup []∧
 ks=
 [⟨none,false,(lkV l'655 1000)⟩,
 ⟨some 79,false,V.agg l'655.6⟩])))))∧
 (x623=false→
 ∀(x658:Bool),
 x658=(l.2==45)→
 (x658=true→
 ∃l661,
 (lkV l 1000)=
 (lkV l661 1000)∧
 l.6=l661.6∧
 (GOk l661∧(l661.2=45∨l661.2=46∨l661.2=47))∧
 ∀(l'662:LK),
 l'662=zX l661→
 r=V.tup []∧
 ks=
 [⟨none,false,(lkV l'662 1000)⟩,
 ⟨some 79,false,V.agg l'662.6⟩])∧
 (x658=false→
 ∀(x665:Bool),
 x665=(l.2==46)→
 (x665=true→
 ∃l668,
 (lkV l 1000)=
 (lkV l668 1000)∧
 l.6=l668.6∧
 (GOk l668∧(l668.2=45∨l668.2=46∨l668.2=47))∧
 ∀(l'669:LK),
 l'669=zX l668→
 r=V.tup []∧
 ks=
 [⟨none,false,(lkV l'669 1000)⟩,
 ⟨some 79,false,V.agg l'669.6⟩])∧
 (x665=false→
 ∀(x672:Bool),
 x672=(l.2==47)→
 (x672=true→
 ∃l675,
 (lkV l 1000)=
 (lkV l675 1000)∧
 l.6=l675.6∧
 (GOk l675∧(l675.2=45∨l675.2=46∨l675.2=47))∧
 ∀(l'676:LK),
 l'676=zX l675→
 r=V.tup []∧
 ks=
 [⟨none,false,(lkV l'676 1000)⟩,
 ⟨some 79,false,V.agg l'676.6⟩])∧
 (x672=false→
 ∃l679,
 (lkV l 1000)=
 (lkV l679 1000)∧
 l.6=l679.6∧
 (GOk l679∧(l679.2=4∨l679.2=34∨l679.2=17∨l679.2=18∨l679.2=19∨l679.2=20∨l679.2=43∨l679.2=44))∧
 ∀(l'680:LK),
 l'680=makesG l679→
 r=V.tup []∧
 ks=
 [⟨none,false,(lkV l'680 1000)⟩,
 ⟨some 79,false,V.agg l'680.6⟩]))))))∧
 (x613=false→
 ∀(x683:Bool),
 x683=decide (l.2≥38)→
 (x683=true→
 ∀(x686:Bool),
 x686=decide (l.2≤42)→
 (x686=true→
 ∃l689,
 (lkV l 1000)=
 (lkV l689 1000)∧
 l.6=l689.6∧
 (GOk l689∧(l689.2=38∨l689.2=39∨l689.2=40∨l689.2=41∨l689.2=42))∧
 ∀(l'690:LK),
 l'690=yA l689→
 r=V.tup []∧
 ks=
 [⟨none,false,(lkV l'690 1000)⟩,
 ⟨some 79,false,V.agg l'690.6⟩])∧
 (x686=false→
 ∀(x693:Bool),
 x693=(l.2==45)→
 (x693=true→
 ∃l696,
 (lkV l 1000)=
 (lkV l696 1000)∧
 l.6=l696.6∧
 (GOk l696∧(l696.2=45∨l696.2=46∨l696.2=47))∧
 ∀(l'697:LK),
 l'697=zX l696→
 r=V.tup []∧
 ks=
 [⟨none,false,(lkV l'697 1000)⟩,
 ⟨some 79,false,V.agg l'697.6⟩])∧
 (x693=false→
 ∀(x700:Bool),
 x700=(l.2==46)→
 (x700=true→
 ∃l703,
 (lkV l 1000)=
 (lkV l703 1000)∧
 l.6=l703.6∧
 (GOk l703∧(l703.2=45∨l703.2=46∨l703.2=47))∧
 ∀(l'704:LK),
 l'704=zX l703→
 r=V.tup []∧
 ks=
 [⟨none,false,(lkV l'704 1000)⟩,
 ⟨some 79,false,V.agg l'704.6⟩])∧
 (x700=false→
 ∀(x707:Bool),
 x707=(l.2==47)→
 (x707=true→
 ∃l710,
 (lkV l 1000)=
 (lkV l710 1000)∧
 l.6=l710.6∧
 (GOk l710∧(l710.2=45∨l710.2=46∨l710.2=47))∧
 ∀(l'711:LK),
 l'711=zX l710→
 r=V.tup []∧
 ks=
 [⟨none,false,(lkV l'711 1000)⟩,
 ⟨some 79,false,V.agg l'711.6⟩])∧
 (x707=false→
 ∃l714,
 (lkV l 1000)=
 (lkV l714 1000)∧
 l.6=l714.6∧
 (GOk l714∧(l714.2=4∨l714.2=34∨l714.2=17∨l714.2=18∨l714.2=19∨l714.2=20∨l714.2=43∨l714.2=44))∧
 ∀(l'715:LK),
 l'715=makesG l714→
 r=V.tup []∧
 ks=
 [⟨none,false,(lkV l'715 1000)⟩,
 ⟨some 79,false,V.agg l'715.6⟩])))))∧
 (x683=false→
 ∀(x718:Bool),
 x718=(l.2==45)→
 (x718=true→
 ∃l721,
 (lkV l 1000)=
 (lkV l721 1000)∧
 l.6=l721.6∧
 (GOk l721∧(l721.2=45∨l721.2=46∨l721.2=47))∧
 ∀(l'722:LK),
 l'722=zX l721→
 r=V.tup []∧
 ks=
 [⟨none,false,(lkV l'722 1000)⟩,
 ⟨some 79,false,V.agg l'722.6⟩])∧
 (x718=false→
 ∀(x725:Bool),
 x725=(l.2==46)→
 (x725=true→
 ∃l728,
 (lkV l 1000)=
 (lkV l728 1000)∧
 l.6=l728.6∧
 (GOk l728∧(l728.2=45∨l728.2=46∨l728.2=47))∧
 ∀(l'729:LK),
 l'729=zX l728→
 r=V.tup []∧
 ks=
 [⟨none,false,(lkV l'729 1000)⟩,
 ⟨some 79,false,V.agg l'729.6⟩])∧
 (x725=false→
 ∀(x732:Bool),
 x732=(l.2==47)→
 (x732=true→
 ∃l735,
 (lkV l 1000)=
 (lkV l735 1000)∧
 l.6=l735.6∧
 (GOk l735∧(l735.2=45∨l735.2=46∨l735.2=47))∧
 ∀(l'736:LK),
 l'736=zX l735→
 r=V.tup []∧
 ks=
 [⟨none,false,(lkV l'736 1000)⟩,
 ⟨some 79,false,V.agg l'736.6⟩])∧
 (x732=false→
 ∃l739,
 (lkV l 1000)=
 (lkV l739 1000)∧
 l.6=l739.6∧
 (GOk l739∧(l739.2=4∨l739.2=34∨l739.2=17∨l739.2=18∨l739.2=19∨l739.2=20∨l739.2=43∨l739.2=44))∧
 ∀(l'740:LK),
 l'740=makesG l739→
 r=V.tup []∧
 ks=
 [⟨none,false,(lkV l'740 1000)⟩,
 ⟨some 79,false,V.agg l'740.6⟩])))))))∧
 (x603=false→
 ∀(x743:Bool),
 x743=decide (l.2≥35)→
 (x743=true→
 ∀(x746:Bool),
 x746=decide (l.2≤37)→
 (x746=true→
 ∃l749,
 (lkV l 1000)=
 (lkV l749 1000)∧
 l.6=l749.6∧
 (GOk l749∧(l749.2=35∨l749.2=36∨l749.2=37))∧
 ∀(l'750:LK),
 l'750=reckonsG l749→
 r=V.tup []∧
 ks=
 [⟨none,false,(lkV l'750 1000)⟩,
 ⟨some 79,false,V.agg l'750.6⟩])∧
 (x746=false→
 ∀(x753:Bool),
 x753=decide (l.2≥38)→
 (x753=true→
 ∀(x756:Bool),
 x756=decide (l.2≤42)→
 (x756=true→
 ∃l759,
 (lkV l 1000)=
 (lkV l759 1000)∧
 l.6=l759.6∧
 (GOk l759∧(l759.2=38∨l759.2=39∨l759.2=40∨l759.2=41∨l759.2=42))∧
 ∀(l'760:LK),
 l'760=yA l759→
 r=V.tup []∧
 ks=
 [⟨none,false,(lkV l'760 1000)⟩,
 ⟨some 79,false,V.agg l'760.6⟩])∧
 (x756=false→
 ∀(x763:Bool),
 x763=(l.2==45)→
 (x763=true→
 ∃l766,
 (lkV l 1000)=
 (lkV l766 1000)∧
 l.6=l766.6∧
 (GOk l766∧(l766.2=45∨l766.2=46∨l766.2=47))∧
 ∀(l'767:LK),
 l'767=zX l766→
 r=V.tup []∧
 ks=
 [⟨none,false,(lkV l'767 1000)⟩,
 ⟨some 79,false,V.agg l'767.6⟩])∧
 (x763=false→
 ∀(x770:Bool),
 x770=(l.2==46)→
 (x770=true→
 ∃l773,
 (lkV l 1000)=
 (lkV l773 1000)∧
 l.6=l773.6∧
 (GOk l773∧(l773.2=45∨l773.2=46∨l773.2=47))∧
 ∀(l'774:LK),
 l'774=zX l773→
 r=V.tup []∧
 ks=
 [⟨none,false,(lkV l'774 1000)⟩,
 ⟨some 79,false,V.agg l'774.6⟩])∧
 (x770=false→
 ∀(x777:Bool),
 x777=(l.2==47)→
 (x777=true→
 ∃l780,
 (lkV l 1000)=
 (lkV l780 1000)∧
 l.6=l780.6∧
 (GOk l780∧(l780.2=45∨l780.2=46∨l780.2=47))∧
 ∀(l'781:LK),
 l'781=zX l780→
 r=V.tup []∧
 ks=
 [⟨none,false,(lkV l'781 1000)⟩,
 ⟨some 79,false,V.agg l'781.6⟩])∧
 (x777=false→
 ∃l784,
 (lkV l 1000)=
 (lkV l784 1000)∧
 l.6=l784.6∧
 (GOk l784∧(l784.2=4∨l784.2=34∨l784.2=17∨l784.2=18∨l784.2=19∨l784.2=20∨l784.2=43∨l784.2=44))∧
 ∀(l'785:LK),
 l'785=makesG l784→
 r=V.tup []∧
 ks=
 [⟨none,false,(lkV l'785 1000)⟩,
 ⟨some 79,false,V.agg l'785.6⟩])))))∧
 (x753=false→
 ∀(x788:Bool),
 x788=(l.2==45)→
 (x788=true→
 ∃l791,
 (lkV l 1000)=
 (lkV l791 1000)∧
 l.6=l791.6∧
 (GOk l791∧(l791.2=45∨l791.2=46∨l791.2=47))∧
 ∀(l'792:LK),
 l'792=zX l791→
 r=V.tup []∧
 ks=
 [⟨none,false,(lkV l'792 1000)⟩,
 ⟨some 79,false,V.agg l'792.6⟩])∧
 (x788=false→
 ∀(x795:Bool),
 x795=(l.2==46)→
 (x795=true→
 ∃l798,
 (lkV l 1000)=
 (lkV l798 1000)∧
 l.6=l798.6∧
 (GOk l798∧(l798.2=45∨l798.2=46∨l798.2=47))∧
 ∀(l'799:LK),
 l'799=zX l798→
 r=V.tup []∧
 ks=
 [⟨none,false,(lkV l'799 1000)⟩,
 ⟨some 79,false,V.agg l'799.6⟩])∧
 (x795=false→
 ∀(x802:Bool),
 x802=(l.2==47)→
 (x802=true→
 ∃l805,
 (lkV l 1000)=
 (lkV l805 1000)∧
 l.6=l805.6∧
 (GOk l805∧(l805.2=45∨l805.2=46∨l805.2=47))∧
 ∀(l'806:LK),
 l'806=zX l805→
 r=V.tup []∧
 ks=
 [⟨none,false,(lkV l'806 1000)⟩,
 ⟨some 79,false,V.agg l'806.6⟩])∧
 (x802=false→
 ∃l809,
 (lkV l 1000)=
 (lkV l809 1000)∧
 l.6=l809.6∧
 (GOk l809∧(l809.2=4∨l809.2=34∨l809.2=17∨l809.2=18∨l809.2=19∨l809.2=20∨l809.2=43∨l809.2=44))∧
 ∀(l'810:LK),
 l'810=makesG l809→
 r=V.tup []∧
 ks=
 [⟨none,false,(lkV l'810 1000)⟩,
 ⟨some 79,false,V.agg l'810.6⟩]))))))∧
 (x743=false→
 ∀(x813:Bool),
 x813=decide (l.2≥38)→
 (x813=true→
 ∀(x816:Bool),
 x816=decide (l.2≤42)→
 (x816=true→
 ∃l819,
 (lkV l 1000)=
 (lkV l819 1000)∧
 l.6=l819.6∧
 (GOk l819∧(l819.2=38∨l819.2=39∨l819.2=40∨l819.2=41∨l819.2=42))∧
 ∀(l'820:LK),
 l'820=yA l819→
 r=V.tup []∧
 ks=
 [⟨none,false,(lkV l'820 1000)⟩,
 ⟨some 79,false,V.agg l'820.6⟩])∧
 (x816=false→
 ∀(x823:Bool),
 x823=(l.2==45)→
 (x823=true→
 ∃l826,
 (lkV l 1000)=
 (lkV l826 1000)∧
 l.6=l826.6∧
 (GOk l826∧(l826.2=45∨l826.2=46∨l826.2=47))∧
 ∀(l'827:LK),
 l'827=zX l826→
 r=V.tup []∧
 ks=
 [⟨none,false,(lkV l'827 1000)⟩,
 ⟨some 79,false,V.agg l'827.6⟩])∧
 (x823=false→
 ∀(x830:Bool),
 x830=(l.2==46)→
 (x830=true→
 ∃l833,
 (lkV l 1000)=
 (lkV l833 1000)∧
 l.6=l833.6∧
 (GOk l833∧(l833.2=45∨l833.2=46∨l833.2=47))∧
 ∀(l'834:LK),
 l'834=zX l833→
 r=V.tup []∧
 ks=
 [⟨none,false,(lkV l'834 1000)⟩,
 ⟨some 79,false,V.agg l'834.6⟩])∧
 (x830=false→
 ∀(x837:Bool),
 x837=(l.2==47)→
 (x837=true→
 ∃l840,
 (lkV l 1000)=
 (lkV l840 1000)∧
 l.6=l840.6∧
 (GOk l840∧(l840.2=45∨l840.2=46∨l840.2=47))∧
 ∀(l'841:LK),
 l'841=zX l840→
 r=V.tup []∧
 ks=
 [⟨none,false,(lkV l'841 1000)⟩,
 ⟨some 79,false,V.agg l'841.6⟩])∧
 (x837=false→
 ∃l844,
 (lkV l 1000)=
 (lkV l844 1000)∧
 l.6=l844.6∧
 (GOk l844∧(l844.2=4∨l844.2=34∨l844.2=17∨l844.2=18∨l844.2=19∨l844.2=20∨l844.2=43∨l844.2=44))∧
 ∀(l'845:LK),
 l'845=makesG l844→
 r=V.tup []∧
 ks=
 [⟨none,false,(lkV l'845 1000)⟩,
 ⟨some 79,false,V.agg l'845.6⟩])))))∧
 (x813=false→
 ∀(x848:Bool),
 x848=(l.2==45)→
 (x848=true→
 ∃l851,
 (lkV l 1000)=
 (lkV l851 1000)∧
 l.6=l851.6∧
 (GOk l851∧(l851.2=45∨l851.2=46∨l851.2=47))∧
 ∀(l'852:LK),
 l'852=zX l851→
 r=V.tup []∧
 ks=
 [⟨none,false,(lkV l'852 1000)⟩,
 ⟨some 79,false,V.agg l'852.6⟩])∧
 (x848=false→
 ∀(x855:Bool),
 x855=(l.2==46)→
 (x855=true→
 ∃l858,
 (lkV l 1000)=
 (lkV l858 1000)∧
 l.6=l858.6∧
 (GOk l858∧(l858.2=45∨l858.2=46∨l858.2=47))∧
 ∀(l'859:LK),
 l'859=zX l858→
 r=V.tup []∧
 ks=
 [⟨none,false,(lkV l'859 1000)⟩,
 ⟨some 79,false,V.agg l'859.6⟩])∧
 (x855=false→
 ∀(x862:Bool),
 x862=(l.2==47)→
 (x862=true→
 ∃l865,
 (lkV l 1000)=
 (lkV l865 1000)∧
 l.6=l865.6∧
 (GOk l865∧(l865.2=45∨l865.2=46∨l865.2=47))∧
 ∀(l'866:LK),
 l'866=zX l865→
 r=V.tup []∧
 ks=
 [⟨none,false,(lkV l'866 1000)⟩,
 ⟨some 79,false,V.agg l'866.6⟩])∧
 (x862=false→
 ∃l869,
 (lkV l 1000)=
 (lkV l869 1000)∧
 l.6=l869.6∧
 (GOk l869∧(l869.2=4∨l869.2=34∨l869.2=17∨l869.2=18∨l869.2=19∨l869.2=20∨l869.2=43∨l869.2=44))∧
 ∀(l'870:LK),
 l'870=makesG l869→
 r=V.tup []∧
 ks=
 [⟨none,false,(lkV l'870 1000)⟩,
 ⟨some 79,false,V.agg l'870.6⟩]))))))))∧
 (x593=false→
 ∀(x873:Bool),
 x873=decide (l.2≥21)→
 (x873=true→
 ∀(x876:Bool),
 x876=decide (l.2≤33)→
 (x876=true→
 ∃l879,
 (lkV l 1000)=
 (lkV l879 1000)∧
 l.6=l879.6∧
 (GOk l879∧(l879.2=33∨l879.2=29∨l879.2=30∨l879.2=31∨l879.2=32∨l879.2=28∨l879.2=21∨l879.2=22∨l879.2=23∨l879.2=24∨l879.2=25∨l879.2=26∨l879.2=27))∧
 ∀(l'880:LK),
 l'880=testsG l879→
 r=V.tup []∧
 ks=
 [⟨none,false,(lkV l'880 1000)⟩,
 ⟨some 79,false,V.agg l'880.6⟩])∧
 (x876=false→
 ∀(x883:Bool),
 x883=decide (l.2≥35)→
 (x883=true→
 ∀(x886:Bool),
 x886=decide (l.2≤37)→
 (x886=true→
 ∃l889,
 (lkV l 1000)=
 (lkV l889 1000)∧
 l.6=l889.6∧
 (GOk l889∧(l889.2=35∨l889.2=36∨l889.2=37))∧
 ∀(l'890:LK),
 l'890=reckonsG l889→
 r=V.tup []∧
 ks=
 [⟨none,false,(lkV l'890 1000)⟩,
 ⟨some 79,false,V.agg l'890.6⟩])∧
 (x886=false→
 ∀(x893:Bool),
 x893=decide (l.2≥38)→
 (x893=true→
 ∀(x896:Bool),
 x896=decide (l.2≤42)→
 (x896=true→
 ∃l899,
 (lkV l 1000)=
 (lkV l899 1000)∧
 l.6=l899.6∧
 (GOk l899∧(l899.2=38∨l899.2=39∨l899.2=40∨l899.2=41∨l899.2=42))∧
 ∀(l'900:LK),
 l'900=yA l899→
 r=V.tup []∧
 ks=
 [⟨none,false,(lkV l'900 1000)⟩,
 ⟨some 79,false,V.agg l'900.6⟩])∧
 (x896=false→
 ∀(x903:Bool),
 x903=(l.2==45)→
 (x903=true→
 ∃l906,
 (lkV l 1000)=
 (lkV l906 1000)∧
 l.6=l906.6∧
 (GOk l906∧(l906.2=45∨l906.2=46∨l906.2=47))∧
 ∀(l'907:LK),
 l'907=zX l906→
 r=V.tup []∧
 ks=
 [⟨none,false,(lkV l'907 1000)⟩,
 ⟨some 79,false,V.agg l'907.6⟩])∧
 (x903=false→
 ∀(x910:Bool),
 x910=(l.2==46)→
 (x910=true→
 ∃l913,
 (lkV l 1000)=
 (lkV l913 1000)∧
 l.6=l913.6∧
 (GOk l913∧(l913.2=45∨l913.2=46∨l913.2=47))∧
 ∀(l'914:LK),
 l'914=zX l913→
 r=V.tup []∧
 ks=
 [⟨none,false,(lkV l'914 1000)⟩,
 ⟨some 79,false,V.agg l'914.6⟩])∧
 (x910=false→
 ∀(x917:Bool),
 x917=(l.2==47)→
 (x917=true→
 ∃l920,
 (lkV l 1000)=
 (lkV l920 1000)∧
 l.6=l920.6∧
 (GOk l920∧(l920.2=45∨l920.2=46∨l920.2=47))∧
 ∀(l'921:LK),
 l'921=zX l920→
 r=V.tup []∧
 ks=
 [⟨none,false,(lkV l'921 1000)⟩,
 ⟨some 79,false,V.agg l'921.6⟩])∧
 (x917=false→
 ∃l924,
 (lkV l 1000)=
 (lkV l924 1000)∧
 l.6=l924.6∧
 (GOk l924∧(l924.2=4∨l924.2=34∨l924.2=17∨l924.2=18∨l924.2=19∨l924.2=20∨l924.2=43∨l924.2=44))∧
 ∀(l'925:LK),
 l'925=makesG l924→
 r=V.tup []∧
 ks=
 [⟨none,false,(lkV l'925 1000)⟩,
 ⟨some 79,false,V.agg l'925.6⟩])))))∧
 (x893=false→
 ∀(x928:Bool),
 x928=(l.2==45)→
 (x928=true→
 ∃l931,
 (lkV l 1000)=
 (lkV l931 1000)∧
 l.6=l931.6∧
 (GOk l931∧(l931.2=45∨l931.2=46∨l931.2=47))∧
 ∀(l'932:LK),
 l'932=zX l931→
 r=V.tup []∧
 ks=
 [⟨none,false,(lkV l'932 1000)⟩,
 ⟨some 79,false,V.agg l'932.6⟩])∧
 (x928=false→
 ∀(x935:Bool),
 x935=(l.2==46)→
 (x935=true→
 ∃l938,
 (lkV l 1000)=
 (lkV l938 1000)∧
 l.6=l938.6∧
 (GOk l938∧(l938.2=45∨l938.2=46∨l938.2=47))∧
 ∀(l'939:LK),
 l'939=zX l938→
 r=V.tup []∧
 ks=
 [⟨none,false,(lkV l'939 1000)⟩,
 ⟨some 79,false,V.agg l'939.6⟩])∧
 (x935=false→
 ∀(x942:Bool),
 x942=(l.2==47)→
 (x942=true→
 ∃l945,
 (lkV l 1000)=
 (lkV l945 1000)∧
 l.6=l945.6∧
 (GOk l945∧(l945.2=45∨l945.2=46∨l945.2=47))∧
 ∀(l'946:LK),
 l'946=zX l945→
 r=V.tup []∧
 ks=
 [⟨none,false,(lkV l'946 1000)⟩,
 ⟨some 79,false,V.agg l'946.6⟩])∧
 (x942=false→
 ∃l949,
 (lkV l 1000)=
 (lkV l949 1000)∧
 l.6=l949.6∧
 (GOk l949∧(l949.2=4∨l949.2=34∨l949.2=17∨l949.2=18∨l949.2=19∨l949.2=20∨l949.2=43∨l949.2=44))∧
 ∀(l'950:LK),
 l'950=makesG l949→
 r=V.tup []∧
 ks=
 [⟨none,false,(lkV l'950 1000)⟩,
 ⟨some 79,false,V.agg l'950.6⟩]))))))∧
 (x883=false→
 ∀(x953:Bool),
 x953=decide (l.2≥38)→
 (x953=true→
 ∀(x956:Bool),
 x956=decide (l.2≤42)→
 (x956=true→
 ∃l959,
 (lkV l 1000)=
 (lkV l959 1000)∧
 l.6=l959.6∧
 (GOk l959∧(l959.2=38∨l959.2=39∨l959.2=40∨l959.2=41∨l959.2=42))∧
 ∀(l'960:LK),
 l'960=yA l959→
 r=V.tup []∧
 ks=
 [⟨none,false,(lkV l'960 1000)⟩,
 ⟨some 79,false,V.agg l'960.6⟩])∧
 (x956=false→
 ∀(x963:Bool),
 x963=(l.2==45)→
 (x963=true→
 ∃l966,
 (lkV l 1000)=
 (lkV l966 1000)∧
 l.6=l966.6∧
 (GOk l966∧(l966.2=45∨l966.2=46∨l966.2=47))∧
 ∀(l'967:LK),
 l'967=zX l966→
 r=V.tup []∧
 ks=
 [⟨none,false,(lkV l'967 1000)⟩,
 ⟨some 79,false,V.agg l'967.6⟩])∧
 (x963=false→
 ∀(x970:Bool),
 x970=(l.2==46)→
 (x970=true→
 ∃l973,
 (lkV l 1000)=
 (lkV l973 1000)∧
 l.6=l973.6∧
 (GOk l973∧(l973.2=45∨l973.2=46∨l973.2=47))∧
 ∀(l'974:LK),
 l'974=zX l973→
 r=V.tup []∧
 ks=
 [⟨none,false,(lkV l'974 1000)⟩,
 ⟨some 79,false,V.agg l'974.6⟩])∧
 (x970=false→
 ∀(x977:Bool),
 x977=(l.2==47)→
 (x977=true→
 ∃l980,
 (lkV l 1000)=
 (lkV l980 1000)∧
 l.6=l980.6∧
 (GOk l980∧(l980.2=45∨l980.2=46∨l980.2=47))∧
 ∀(l'981:LK),
 l'981=zX l980→
 r=V.tup []∧
 ks=
 [⟨none,false,(lkV l'981 1000)⟩,
 ⟨some 79,false,V.agg l'981.6⟩])∧
 (x977=false→
 ∃l984,
 (lkV l 1000)=
 (lkV l984 1000)∧
 l.6=l984.6∧
 (GOk l984∧(l984.2=4∨l984.2=34∨l984.2=17∨l984.2=18∨l984.2=19∨l984.2=20∨l984.2=43∨l984.2=44))∧
 ∀(l'985:LK),
 l'985=makesG l984→
 r=V.tup []∧
 ks=
 [⟨none,false,(lkV l'985 1000)⟩,
 ⟨some 79,false,V.agg l'985.6⟩])))))∧
 (x953=false→
 ∀(x988:Bool),
 x988=(l.2==45)→
 (x988=true→
 ∃l991,
 (lkV l 1000)=
 (lkV l991 1000)∧
 l.6=l991.6∧
 (GOk l991∧(l991.2=45∨l991.2=46∨l991.2=47))∧
 ∀(l'992:LK),
 l'992=zX l991→
 r=V.tup []∧
 ks=
 [⟨none,false,(lkV l'992 1000)⟩,
 ⟨some 79,false,V.agg l'992.6⟩])∧
 (x988=false→
 ∀(x995:Bool),
 x995=(l.2==46)→
 (x995=true→
 ∃l998,
 (lkV l 1000)=
 (lkV l998 1000)∧
 l.6=l998.6∧
 (GOk l998∧(l998.2=45∨l998.2=46∨l998.2=47))∧
 ∀(l'999:LK),
 l'999=zX l998→
 r=V.tup []∧
 ks=
 [⟨none,false,(lkV l'999 1000)⟩,
 ⟨some 79,false,V.agg l'999.6⟩])∧
 (x995=false→
 ∀(x1002:Bool),
 x1002=(l.2==47)→
 (x1002=true→
 ∃l1005,
 (lkV l 1000)=
 (lkV l1005 1000)∧
 l.6=l1005.6∧
 (GOk l1005∧(l1005.2=45∨l1005.2=46∨l1005.2=47))∧
 ∀(l'1006:LK),
 l'1006=zX l1005→
 r=V.tup []∧
 ks=
 [⟨none,false,(lkV l'1006 1000)⟩,
 ⟨some 79,false,V.agg l'1006.6⟩])∧
 (x1002=false→
 ∃l1009,
 (lkV l 1000)=
 (lkV l1009 1000)∧
 l.6=l1009.6∧
 (GOk l1009∧(l1009.2=4∨l1009.2=34∨l1009.2=17∨l1009.2=18∨l1009.2=19∨l1009.2=20∨l1009.2=43∨l1009.2=44))∧
 ∀(l'1010:LK),
 l'1010=makesG l1009→
 r=V.tup []∧
 ks=
 [⟨none,false,(lkV l'1010 1000)⟩,
 ⟨some 79,false,V.agg l'1010.6⟩])))))))∧
 (x873=false→
 ∀(x1013:Bool),
 x1013=decide (l.2≥35)→
 (x1013=true→
 ∀(x1016:Bool),
 x1016=decide (l.2≤37)→
 (x1016=true→
 ∃l1019,
 (lkV l 1000)=
 (lkV l1019 1000)∧
 l.6=l1019.6∧
 (GOk l1019∧(l1019.2=35∨l1019.2=36∨l1019.2=37))∧
 ∀(l'1020:LK),
 l'1020=reckonsG l1019→
 r=V.tup []∧
 ks=
 [⟨none,false,(lkV l'1020 1000)⟩,
 ⟨some 79,false,V.agg l'1020.6⟩])∧
 (x1016=false→
 ∀(x1023:Bool),
 x1023=decide (l.2≥38)→
 (x1023=true→
 ∀(x1026:Bool),
 x1026=decide (l.2≤42)→
 (x1026=true→
 ∃l1029,
 (lkV l 1000)=
 (lkV l1029 1000)∧
 l.6=l1029.6∧
 (GOk l1029∧(l1029.2=38∨l1029.2=39∨l1029.2=40∨l1029.2=41∨l1029.2=42))∧
 ∀(l'1030:LK),
 l'1030=yA l1029→
 r=V.tup []∧
 ks=
 [⟨none,false,(lkV l'1030 1000)⟩,
 ⟨some 79,false,V.agg l'1030.6⟩])∧
 (x1026=false→
 ∀(x1033:Bool),
 x1033=(l.2==45)→
 (x1033=true→
 ∃l1036,
 (lkV l 1000)=
 (lkV l1036 1000)∧
 l.6=l1036.6∧
 (GOk l1036∧(l1036.2=45∨l1036.2=46∨l1036.2=47))∧
 ∀(l'1037:LK),
 l'1037=zX l1036→
 r=V.tup []∧
 ks=
 [⟨none,false,(lkV l'1037 1000)⟩,
 ⟨some 79,false,V.agg l'1037.6⟩])∧
 (x1033=false→
 ∀(x1040:Bool),
 x1040=(l.2==46)→
 (x1040=true→
 ∃l1043,
 (lkV l 1000)=
 (lkV l1043 1000)∧
 l.6=l1043.6∧
 (GOk l1043∧(l1043.2=45∨l1043.2=46∨l1043.2=47))∧
 ∀(l'1044:LK),
 l'1044=zX l1043→
 r=V.tup []∧
 ks=
 [⟨none,false,(lkV l'1044 1000)⟩,
 ⟨some 79,false,V.agg l'1044.6⟩])∧
 (x1040=false→
 ∀(x1047:Bool),
 x1047=(l.2==47)→
 (x1047=true→
 ∃l1050,
 (lkV l 1000)=
 (lkV l1050 1000)∧
 l.6=l1050.6∧
 (GOk l1050∧(l1050.2=45∨l1050.2=46∨l1050.2=47))∧
 ∀(l'1051:LK),
 l'1051=zX l1050→
 r=V.tup []∧
 ks=
 [⟨none,false,(lkV l'1051 1000)⟩,
 ⟨some 79,false,V.agg l'1051.6⟩])∧
 (x1047=false→
 ∃l1054,
 (lkV l 1000)=
 (lkV l1054 1000)∧
 l.6=l1054.6∧
 (GOk l1054∧(l1054.2=4∨l1054.2=34∨l1054.2=17∨l1054.2=18∨l1054.2=19∨l1054.2=20∨l1054.2=43∨l1054.2=44))∧
 ∀(l'1055:LK),
 l'1055=makesG l1054→
 r=V.tup []∧
 ks=
 [⟨none,false,(lkV l'1055 1000)⟩,
 ⟨some 79,false,V.agg l'1055.6⟩])))))∧
 (x1023=false→
 ∀(x1058:Bool),
 x1058=(l.2==45)→
 (x1058=true→
 ∃l1061,
 (lkV l 1000)=
 (lkV l1061 1000)∧
 l.6=l1061.6∧
 (GOk l1061∧(l1061.2=45∨l1061.2=46∨l1061.2=47))∧
 ∀(l'1062:LK),
 l'1062=zX l1061→
 r=V.tup []∧
 ks=
 [⟨none,false,(lkV l'1062 1000)⟩,
 ⟨some 79,false,V.agg l'1062.6⟩])∧
 (x1058=false→
 ∀(x1065:Bool),
 x1065=(l.2==46)→
 (x1065=true→
 ∃l1068,
 (lkV l 1000)=
 (lkV l1068 1000)∧
 l.6=l1068.6∧
 (GOk l1068∧(l1068.2=45∨l1068.2=46∨l1068.2=47))∧
 ∀(l'1069:LK),
 l'1069=zX l1068→
 r=V.tup []∧
 ks=
 [⟨none,false,(lkV l'1069 1000)⟩,
 ⟨some 79,false,V.agg l'1069.6⟩])∧
 (x1065=false→
 ∀(x1072:Bool),
 x1072=(l.2==47)→
 (x1072=true→
 ∃l1075,
 (lkV l 1000)=
 (lkV l1075 1000)∧
 l.6=l1075.6∧
 (GOk l1075∧(l1075.2=45∨l1075.2=46∨l1075.2=47))∧
 ∀(l'1076:LK),
 l'1076=zX l1075→
 r=V.tup []∧
 ks=
 [⟨none,false,(lkV l'1076 1000)⟩,
 ⟨some 79,false,V.agg l'1076.6⟩])∧
 (x1072=false→
 ∃l1079,
 (lkV l 1000)=
 (lkV l1079 1000)∧
 l.6=l1079.6∧
 (GOk l1079∧(l1079.2=4∨l1079.2=34∨l1079.2=17∨l1079.2=18∨l1079.2=19∨l1079.2=20∨l1079.2=43∨l1079.2=44))∧
 ∀(l'1080:LK),
 l'1080=makesG l1079→
 r=V.tup []∧
 ks=
 [⟨none,false,(lkV l'1080 1000)⟩,
 ⟨some 79,false,V.agg l'1080.6⟩]))))))∧
 (x1013=false→
 ∀(x1083:Bool),
 x1083=decide (l.2≥38)→
 (x1083=true→
 ∀(x1086:Bool),
 x1086=decide (l.2≤42)→
 (x1086=true→
 ∃l1089,
 (lkV l 1000)=
 (lkV l1089 1000)∧
 l.6=l1089.6∧
 (GOk l1089∧(l1089.2=38∨l1089.2=39∨l1089.2=40∨l1089.2=41∨l1089.2=42))∧
 ∀(l'1090:LK),
 l'1090=yA l1089→
 r=V.tup []∧
 ks=
 [⟨none,false,(lkV l'1090 1000)⟩,
 ⟨some 79,false,V.agg l'1090.6⟩])∧
 (x1086=false→
 ∀(x1093:Bool),
 x1093=(l.2==45)→
 (x1093=true→
 ∃l1096,
 (lkV l 1000)=
 (lkV l1096 1000)∧
 l.6=l1096.6∧
 (GOk l1096∧(l1096.2=45∨l1096.2=46∨l1096.2=47))∧
 ∀(l'1097:LK),
 l'1097=zX l1096→
 r=V.tup []∧
 ks=
 [⟨none,false,(lkV l'1097 1000)⟩,
 ⟨some 79,false,V.agg l'1097.6⟩])∧
 (x1093=false→
 ∀(x1100:Bool),
 x1100=(l.2==46)→
 (x1100=true→
 ∃l1103,
 (lkV l 1000)=
 (lkV l1103 1000)∧
 l.6=l1103.6∧
 (GOk l1103∧(l1103.2=45∨l1103.2=46∨l1103.2=47))∧
 ∀(l'1104:LK),
 l'1104=zX l1103→
 r=V.tup []∧
 ks=
 [⟨none,false,(lkV l'1104 1000)⟩,
 ⟨some 79,false,V.agg l'1104.6⟩])∧
 (x1100=false→
 ∀(x1107:Bool),
 x1107=(l.2==47)→
 (x1107=true→
 ∃l1110,
 (lkV l 1000)=
 (lkV l1110 1000)∧
 l.6=l1110.6∧
 (GOk l1110∧(l1110.2=45∨l1110.2=46∨l1110.2=47))∧
 ∀(l'1111:LK),
 l'1111=zX l1110→
 r=V.tup []∧
 ks=
 [⟨none,false,(lkV l'1111 1000)⟩,
 ⟨some 79,false,V.agg l'1111.6⟩])∧
 (x1107=false→
 ∃l1114,
 (lkV l 1000)=
 (lkV l1114 1000)∧
 l.6=l1114.6∧
 (GOk l1114∧(l1114.2=4∨l1114.2=34∨l1114.2=17∨l1114.2=18∨l1114.2=19∨l1114.2=20∨l1114.2=43∨l1114.2=44))∧
 ∀(l'1115:LK),
 l'1115=makesG l1114→
 r=V.tup []∧
 ks=
 [⟨none,false,(lkV l'1115 1000)⟩,
 ⟨some 79,false,V.agg l'1115.6⟩])))))∧
 (x1083=false→
 ∀(x1118:Bool),
 x1118=(l.2==45)→
 (x1118=true→
 ∃l1121,
 (lkV l 1000)=
 (lkV l1121 1000)∧
 l.6=l1121.6∧
 (GOk l1121∧(l1121.2=45∨l1121.2=46∨l1121.2=47))∧
 ∀(l'1122:LK),
 l'1122=zX l1121→
 r=V.tup []∧
 ks=
 [⟨none,false,(lkV l'1122 1000)⟩,
 ⟨some 79,false,V.agg l'1122.6⟩])∧
 (x1118=false→
 ∀(x1125:Bool),
 x1125=(l.2==46)→
 (x1125=true→
 ∃l1128,
 (lkV l 1000)=
 (lkV l1128 1000)∧
 l.6=l1128.6∧
 (GOk l1128∧(l1128.2=45∨l1128.2=46∨l1128.2=47))∧
 ∀(l'1129:LK),
 l'1129=zX l1128→
 r=V.tup []∧
 ks=
 [⟨none,false,(lkV l'1129 1000)⟩,
 ⟨some 79,false,V.agg l'1129.6⟩])∧
 (x1125=false→
 ∀(x1132:Bool),
 x1132=(l.2==47)→
 (x1132=true→
 ∃l1135,
 (lkV l 1000)=
 (lkV l1135 1000)∧
 l.6=l1135.6∧
 (GOk l1135∧(l1135.2=45∨l1135.2=46∨l1135.2=47))∧
 ∀(l'1136:LK),
 l'1136=zX l1135→
 r=V.tup []∧
 ks=
 [⟨none,false,(lkV l'1136 1000)⟩,
 ⟨some 79,false,V.agg l'1136.6⟩])∧
 (x1132=false→
 ∃l1139,
 (lkV l 1000)=
 (lkV l1139 1000)∧
 l.6=l1139.6∧
 (GOk l1139∧(l1139.2=4∨l1139.2=34∨l1139.2=17∨l1139.2=18∨l1139.2=19∨l1139.2=20∨l1139.2=43∨l1139.2=44))∧
 ∀(l'1140:LK),
 l'1140=makesG l1139→
 r=V.tup []∧
 ks=
 [⟨none,false,(lkV l'1140 1000)⟩,
 ⟨some 79,false,V.agg l'1140.6⟩])))))))))))))):=by kernel_rfl
theorem n26 (m:MD) (op:Int) (ag:List V) (s:FS) (r:V):wC Try.prog sp26 63 zB (zN Try.f26) noLs 0 (zC Try.f26) 1000 (zL [mdV m,.agg [.int .i64 op,.list false ag],fsV s] 0) [] (finK Try.prog none Try.f26.results.toList r)=(
 (∀(u0:V),List.Mem u0 ag→T28 u0)∧
 ∀(x2:Bool),
 x2=!fitsG op ag→
 (x2=true→
 r=
 V.tup
 [.agg
 [.agg
 (arrF 16 zF),
 .bool false,.list false [],.int .i64 0,.list false []],
 .list false [],.bool false,.bool false])∧
 (x2=false→
 ∀(x6:Bool),
 x6=(op==3)→
 (x6=true→
 r=
 V.tup
 [.agg
 [.agg
 (arrF 16 zF),
 .bool false,.list false [],.int .i64 0,.list false []],
 .list false [],.bool false,.bool false])∧
 (x6=false→
 ∀(x10:Bool),
 x10=!endS op→
 ∃l12,
 V.agg
 [.agg [.list false m.1,.list false m.2,.list false m.3,.list false m.4,.list false m.5,.list false m.6],.agg [.int .i64 op,.list false ag],
 .agg
 [.agg
 (arrF 16 (FS.f s)),
 .bool s.2,.list false s.3,.int .i64 s.4,.list false s.5],
 .agg
 [.agg
 (arrF 16 (FS.f s)),
 .bool s.2,.list false s.3,.int .i64 s.4,.list false s.5],
 .nils,.bool x10,.bool true]=
 V.agg
 [(mdV l12.m),.agg [.int .i64 l12.2,.list false l12.3],
 (fsV l12.s),
 (fsV l12.o),
 .nils,.bool l12.7,.bool l12.8]∧
 l12.6=[]∧
 (GOk l12∧1≤l12.2∧l12.2≤51∧l12.2≠3∧List.length (LK.s l12).5≤900)∧
 ∀(l'13:LK),
 l'13=doesG l12→
 ∃l15,
 (lkV l'13 1027)=
 (lkV l15 1027)∧
 l'13.6=l15.6∧
 (LOk l15∧(∀(u16:V),List.Mem u16 l15.3→T28 u16)∧List.length l15.6≤4000)∧
 ∀(l'18:LK),
 l'18=throwsG l15→
 ∀(x20:Bool),
 x20=!l'18.8→
 (x20=true→
 r=
 V.tup
 [.agg
 [.agg
 (arrF 16 zF),
 .bool false,.list false [],.int .i64 0,.list false []],
 .list false [],.bool false,.bool false])∧
 (x20=false→
 ∀(x24:Bool),
 x24=!l'18.7→
 (x24=true→
 List.length l'18.6=List.length l'18.6∧
 r=
 V.tup
 [.agg
 [.agg
 (arrF 16 zF),
 .bool false,.list false [],.int .i64 0,.list false []],
 .list false l'18.6,.bool l'18.7,.bool true])∧
 (x24=false→
 List.length l'18.6=List.length l'18.6∧
 r=
 V.tup
 [(fsV l'18.o),
 .list false l'18.6,.bool l'18.7,.bool true]))))):=by kernel_rfl
end GoL
