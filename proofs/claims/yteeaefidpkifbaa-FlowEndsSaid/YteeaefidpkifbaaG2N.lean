/- A part of the proof: a logic proved sound over the model; contracts; plain laws. -/
import Derived.Test.YteeaefidpkifbaaGE
import Derived.Test.YteeaefidpkifbaaG2D
set_option linter.all false
open Go Go.Proofs
namespace GoL
set_option maxRecDepth 100000
theorem n57 (ok:Bool) (l:LK) (r:V) (ks:List Blk):wC Try.prog sp57 19 zB (zO []) noLs 0 (zC Try.f57) 1000 (zL [.ptr 0 0 [],.bool ok] 0) [(0,⟨none,false,lkV l 1⟩),(1,⟨some 79,false,.agg l.es⟩)] (finQ Try.prog [] none Try.f57.results.toList [0,1] fun v bs=>r=v∧ks=bs)=(
 (l.8=true→
 r=V.bool ok∧
 ks=
 [⟨none,false,V.agg
 [(mdV l.m),.agg [.int .i64 l.2,.list false l.3],
 (fsV l.s),
 (fsV l.o),
 .sl 1 (List.length l.6),.bool l.7,.bool ok]⟩,
 ⟨some 79,false,V.agg l.6⟩])∧
 (l.8=false→
 r=V.bool false∧
 ks=
 [⟨none,false,V.agg
 [(mdV l.m),.agg [.int .i64 l.2,.list false l.3],
 (fsV l.s),
 (fsV l.o),
 .sl 1 (List.length l.6),.bool l.7,.bool false]⟩,
 ⟨some 79,false,V.agg l.6⟩])):=by kernel_rfl
theorem n57y (ok:Bool) (l:LK) (r:V) (ks:List Blk):wC Try.prog sp57 19 zB (zO []) noLs 0 (zC Try.f57) 1000 (zL [.ptr 0 0 [],.bool ok] 0) [(0,⟨none,false,lkY l 1 2⟩),(1,⟨some 79,false,.agg l.es⟩),(2,⟨some 52,false,.agg l.o.ys⟩)] (finQ Try.prog [] none Try.f57.results.toList [0,1,2] fun v bs=>r=v∧ks=bs)=(
 (l.8=true→
 r=V.bool ok∧
 ks=
 [⟨none,false,V.agg
 [(mdV l.m),.agg [.int .i64 l.2,.list false l.3],
 (fsV l.s),
 .agg
 [.agg
 (arrF 16 (FS.f (LK.o l))),
 .bool (LK.o l).2,.sl 2 (List.length (LK.o l).3),.int .i64 (LK.o l).4,.list false (LK.o l).5],
 .sl 1 (List.length l.6),.bool l.7,.bool ok]⟩,
 ⟨some 79,false,V.agg l.6⟩,⟨some 52,false,V.agg (LK.o l).3⟩])∧
 (l.8=false→
 r=V.bool false∧
 ks=
 [⟨none,false,V.agg
 [(mdV l.m),.agg [.int .i64 l.2,.list false l.3],
 (fsV l.s),
 .agg
 [.agg
 (arrF 16 (FS.f (LK.o l))),
 .bool (LK.o l).2,.sl 2 (List.length (LK.o l).3),.int .i64 (LK.o l).4,.list false (LK.o l).5],
 .sl 1 (List.length l.6),.bool l.7,.bool false]⟩,
 ⟨some 79,false,V.agg l.6⟩,⟨some 52,false,V.agg (LK.o l).3⟩])):=by kernel_rfl
theorem n79 (i:Int) (l:LK) (z z1:Bool) (r:V) (ks:List Blk):wC Try.prog sp79 13 zB (zO []) noLs 0 (zC Try.f79) 1000 (zL [.ptr 0 0 [],.int .i64 i] 0) [(0,⟨none,z,lkV l 1⟩),(1,⟨some 79,z1,.agg l.es⟩)] (finQ Try.prog [] none Try.f79.results.toList [0,1] fun v bs=>r=v∧ks=bs)=(
 0≤i∧
 i<↑(List.length l.3)∧
 ∃n0 n1 l2,
 getV l.3 i=V.agg [.int .i64 n0,.int .i64 n1,.list false l2]∧
 r=V.agg [.int .i64 n0,.int .i64 n1,.list false l2]∧
 ks=
 [⟨none,z,(lkV l 1)⟩,
 ⟨some 79,z1,V.agg l.6⟩]):=by kernel_rfl
theorem n47 (i:Int) (l:LK) (z z1:Bool) (r:V) (ks:List Blk):wC Try.prog sp47 14 zB (zO []) noLs 0 (zC Try.f47) 1000 (zL [.ptr 0 0 [],.int .i64 i] 0) [(0,⟨none,z,lkV l 1⟩),(1,⟨some 79,z1,.agg l.es⟩)] (finQ Try.prog [] none Try.f47.results.toList [0,1] fun v bs=>r=v∧ks=bs)=(
 0≤i∧
 i<↑(List.length l.3)∧
 ∃n0 n1 l2,
 getV l.3 i=V.agg [.int .i64 n0,.int .i64 n1,.list false l2]∧
 r=V.int .i64 n1∧
 ks=
 [⟨none,z,(lkV l 1)⟩,
 ⟨some 79,z1,V.agg l.6⟩]):=by kernel_rfl
theorem n47y (i:Int) (l:LK) (z z1 z2:Bool) (r:V) (ks:List Blk):wC Try.prog sp47 14 zB (zO []) noLs 0 (zC Try.f47) 1000 (zL [.ptr 0 0 [],.int .i64 i] 0) [(0,⟨none,z,lkY l 1 2⟩),(1,⟨some 79,z1,.agg l.es⟩),(2,⟨some 52,z2,.agg l.o.ys⟩)] (finQ Try.prog [] none Try.f47.results.toList [0,1,2] fun v bs=>r=v∧ks=bs)=(
 0≤i∧
 i<↑(List.length l.3)∧
 ∃n0 n1 l2,
 getV l.3 i=V.agg [.int .i64 n0,.int .i64 n1,.list false l2]∧
 r=V.int .i64 n1∧
 ks=
 [⟨none,z,V.agg
 [(mdV l.m),.agg [.int .i64 l.2,.list false l.3],
 (fsV l.s),
 .agg
 [.agg
 (arrF 16 (FS.f (LK.o l))),
 .bool (LK.o l).2,.sl 2 (List.length (LK.o l).3),.int .i64 (LK.o l).4,.list false (LK.o l).5],
 .sl 1 (List.length l.6),.bool l.7,.bool l.8]⟩,
 ⟨some 79,z1,V.agg l.6⟩,⟨some 52,z2,V.agg (LK.o l).3⟩]):=by kernel_rfl
theorem n71 (tg n:Int) (ls:List V) (l:LK) (z z1:Bool) (r:V) (ks:List Blk):wC Try.prog sp71 16 zB (zN Try.f71) noLs 0 (zC Try.f71) 1000 (zL [.ptr 0 0 [],.agg [.int .i64 tg,.int .i64 n,.list false ls]] 0) [(0,⟨none,z,lkV l 1⟩),(1,⟨some 79,z1,.agg l.es⟩)] (finQ Try.prog [] none Try.f71.results.toList [0,1] fun v bs=>r=v∧ks=bs)=(
 LitL (LK.m l).5∧
 SOk
 (arrF 16 (FS.f (LK.s l)))
 (LK.s l).3 (LK.s l).5∧
 ∃f0:Nat→Int×Int,
 (arrF 16 (FS.f (LK.s l)))=
 (arrF 16 f0)∧
 ∀(q1:Int×Int),
 q1=srcS f0 (LK.s l).2 (LK.s l).3 (LK.m l).5 tg n→
 r=V.agg [.int .i64 q1.1,.int .i64 q1.2]∧
 ks=
 [⟨none,z,(lkV l 1)⟩,
 ⟨some 79,z1,V.agg l.6⟩]):=by kernel_rfl
theorem n85 (n:Int) (l:LK) (r:V) (ks:List Blk):wC Try.prog sp85 24 zB (zO []) noLs 0 (zC Try.f85) 1000 (zL [.ptr 0 0 [],.int .i64 n] 0) [(0,⟨none,false,lkV l 1⟩),(1,⟨some 79,false,.agg l.es⟩)] (finQ Try.prog [] none Try.f85.results.toList [0,1] fun v bs=>r=v∧ks=bs)=(
 ∀(x0:Bool),
 x0=decide ((LK.s l).4≥n)→
 ∃l2,
 (lkV l 1)=
 (lkV l2 1)∧
 l.6=l2.6∧
 ∀(l'3:LK),
 l'3=zW l2 x0→
 ∀(x5:Int),
 x5=IntKind.wrap .i64 ((LK.s l'3).4-n)→
 r=V.tup []∧
 ks=
 [⟨none,false,V.agg
 [(mdV l'3.m),.agg [.int .i64 l'3.2,.list false l'3.3],
 (fsV l'3.s),
 .agg
 [.agg
 (arrF 16 (FS.f (LK.o l'3))),
 .bool (LK.o l'3).2,.list false (LK.o l'3).3,.int .i64 x5,.list false (LK.o l'3).5],
 .sl 1 (List.length l'3.6),.bool l'3.7,.bool l'3.8]⟩,
 ⟨some 79,false,V.agg l'3.6⟩]):=by kernel_rfl
theorem n80 (n:Int) (l:LK) (r:V) (ks:List Blk):wC Try.prog sp80 32 zB (zO []) noLs 0 (zC Try.f80) 1000 (zL [.ptr 0 0 [],.int .i64 n] 0) [(0,⟨none,false,lkV l 1⟩),(1,⟨some 79,false,.agg l.es⟩)] (finQ Try.prog [] none Try.f80.results.toList [0,1] fun v bs=>r=v∧ks=bs)=(
 ∃f0:Nat→Int×Int,
 (arrF 16 (FS.f (LK.s l)))=
 (arrF 16 f0)∧
 (liveB f0 n=true→
 SOk
 (arrF 16 (FS.f (LK.s l)))
 (LK.s l).3 (LK.s l).5∧
 ∃l2,
 (lkV l 1)=
 (lkV l2 1)∧
 l.6=l2.6∧
 ∀(l'3:LK),
 l'3=zW l2 (readyB (LK.s l).2 (LK.s l).3)→
 ∃f5:Nat→Int×Int,
 (arrF 16 (FS.f (LK.o l'3)))=
 (arrF 16 f5)∧
 SOk
 (arrF 16 (FS.f (LK.o l'3)))
 (LK.o l'3).3 (LK.o l'3).5∧
 ∀(g6:Nat→Int×Int),
 g6=cutF f5 (if 0<if 16<n then 16 else n then if 16<n then 16 else n else 0)→
 r=V.tup []∧
 ks=
 [⟨none,false,V.agg
 [(mdV l'3.m),.agg [.int .i64 l'3.2,.list false l'3.3],
 (fsV l'3.s),
 .agg
 [.agg
 (arrF 16 g6),
 .bool (LK.o l'3).2,.list false (LK.o l'3).3,.int .i64 0,.list false (LK.o l'3).5],
 .sl 1 (List.length l'3.6),.bool l'3.7,.bool l'3.8]⟩,
 ⟨some 79,false,V.agg l'3.6⟩])∧
 (liveB f0 n=false→
 ∃l9,
 (lkV l 1)=
 (lkV l9 1)∧
 l.6=l9.6∧
 ∀(l'10:LK),
 l'10=zW l9 false→
 ∃f12:Nat→Int×Int,
 (arrF 16 (FS.f (LK.o l'10)))=
 (arrF 16 f12)∧
 SOk
 (arrF 16 (FS.f (LK.o l'10)))
 (LK.o l'10).3 (LK.o l'10).5∧
 ∀(g13:Nat→Int×Int),
 g13=cutF f12 (if 0<if 16<n then 16 else n then if 16<n then 16 else n else 0)→
 r=V.tup []∧
 ks=
 [⟨none,false,V.agg
 [(mdV l'10.m),.agg [.int .i64 l'10.2,.list false l'10.3],
 (fsV l'10.s),
 .agg
 [.agg
 (arrF 16 g13),
 .bool (LK.o l'10).2,.list false (LK.o l'10).3,.int .i64 0,.list false (LK.o l'10).5],
 .sl 1 (List.length l'10.6),.bool l'10.7,.bool l'10.8]⟩,
 ⟨some 79,false,V.agg l'10.6⟩])):=by kernel_rfl
theorem n74 (l:LK) (r:V) (ks:List Blk):wC Try.prog sp74 20 zB (zN Try.f74) noLs 0 (zC Try.f74) 1000 (zL [.ptr 0 0 []] 0) [(0,⟨none,false,lkV l 1⟩),(1,⟨some 79,false,.agg l.es⟩)] (finQ Try.prog [] none Try.f74.results.toList [0,1] fun v bs=>r=v∧ks=bs)=(
 ∃f0:Nat→Int×Int,
 (arrF 16 (FS.f (LK.o l)))=
 (arrF 16 f0)∧
 SOk
 (arrF 16 (FS.f (LK.o l)))
 (LK.o l).3 (LK.o l).5∧
 ∀(g1:Nat→Int×Int),
 g1=cutF f0 (if 0<if 16<0 then 16 else 0 then if 16<0 then 16 else 0 else 0)→
 Int.ofNat 0≤0∧
 (0:Int)<↑16∧
 r=V.tup []∧
 ks=
 [⟨none,false,V.agg
 [(mdV l.m),.agg [.int .i64 l.2,.list false l.3],
 (fsV l.s),
 .agg
 [.agg
 [.agg [.int .i64 127,.int .i64 (-1)],.agg [.int .i64 (g1 1).1,.int .i64 (g1 1).2],.agg [.int .i64 (g1 2).1,.int .i64 (g1 2).2],.agg [.int .i64 (g1 3).1,.int .i64 (g1 3).2],.agg [.int .i64 (g1 4).1,.int .i64 (g1 4).2],
 .agg [.int .i64 (g1 5).1,.int .i64 (g1 5).2],.agg [.int .i64 (g1 6).1,.int .i64 (g1 6).2],.agg [.int .i64 (g1 7).1,.int .i64 (g1 7).2],.agg [.int .i64 (g1 8).1,.int .i64 (g1 8).2],.agg [.int .i64 (g1 9).1,.int .i64 (g1 9).2],
 .agg [.int .i64 (g1 10).1,.int .i64 (g1 10).2],.agg [.int .i64 (g1 11).1,.int .i64 (g1 11).2],.agg [.int .i64 (g1 12).1,.int .i64 (g1 12).2],.agg [.int .i64 (g1 13).1,.int .i64 (g1 13).2],.agg [.int .i64 (g1 14).1,.int .i64 (g1 14).2],
 .agg [.int .i64 (g1 15).1,.int .i64 (g1 15).2]],
 .bool (LK.o l).2,.list false (LK.o l).3,.int .i64 0,.list false (LK.o l).5],
 .sl 1 (List.length l.6),.bool l.7,.bool l.8]⟩,
 ⟨some 79,false,V.agg l.6⟩]):=by kernel_rfl
theorem n83 (tg n:Int) (ls:List V) (l:LK) (r:V) (ks:List Blk):wC Try.prog sp83 11 zB (zO []) noLs 0 (zC Try.f83) 1000 (zL [.ptr 0 0 [],.agg [.int .i64 tg,.int .i64 n,.list false ls]] 0) [(0,⟨none,false,lkV l 1⟩),(1,⟨some 79,false,.agg l.es⟩)] (finQ Try.prog [] none Try.f83.results.toList [0,1] fun v bs=>r=v∧ks=bs)=(
 ∃l0,
 (lkV l 1)=
 (lkV l0 1)∧
 l.6=l0.6∧
 LOk l0∧
 ∀(q1:Int×Int),
 q1=whatK l0 tg n→
 ∀(x3:Bool),
 x3=(q1.1==128)→
 ∃l5,
 (lkV l 1)=
 (lkV l5 1)∧
 l.6=l5.6∧
 ∀(l'6:LK),
 l'6=zW l5 x3→
 r=V.tup []∧
 ks=
 [⟨none,false,(lkV l'6 1)⟩,
 ⟨some 79,false,V.agg l'6.6⟩]):=by kernel_rfl
theorem n78 (tg n:Int) (ls:List V) (m a:Int) (l:LK) (r:V) (ks:List Blk):wC Try.prog sp78 40 zB (zN Try.f78) noLs 0 (zC Try.f78) 1000 (zL [.ptr 0 0 [],.agg [.int .i64 tg,.int .i64 n,.list false ls],.agg [.int .i64 m,.int .i64 a]] 0) [(0,⟨none,false,lkV l 1⟩),(1,⟨some 79,false,.agg l.es⟩)] (finQ Try.prog [] none Try.f78.results.toList [0,1] fun v bs=>r=v∧ks=bs)=(
 ∀(x0:Bool),
 x0=(tg==4)→
 (x0=true→
 NLs (LK.o l).5∧
 List.length (LK.o l).5≤100000∧
 (memI (LK.o l).5 n=true→
 ∃l4,
 (lkV l 1)=
 (lkV l4 1)∧
 l.6=l4.6∧
 ∀(l'5:LK),
 l'5=zW l4 false→
 r=V.tup []∧
 ks=
 [⟨none,false,(lkV l'5 1)⟩,
 ⟨some 79,false,V.agg l'5.6⟩])∧
 (memI (LK.o l).5 n=false→
 SOk
 (arrF 16 (FS.f (LK.o l)))
 (LK.o l).3 (LK.o l).5∧
 ∃f8:Nat→Int×Int,
 (arrF 16 (FS.f (LK.o l)))=
 (arrF 16 f8)∧
 ∀(g9:Nat→Int×Int),
 g9=putF f8 tg n m a→
 ∀(zs11:List V),
 zs11=putZ (LK.o l).2 (LK.o l).3 tg n m a→
 ∀(ok13:Bool),
 ok13=putO (LK.o l).2 (LK.o l).3 tg n→
 ∃l15,
 (lkV l 1)=
 (lkV l15 1)∧
 l.6=l15.6∧
 ∀(l'16:LK),
 l'16=zW l15 ok13→
 (l'16.8=true→
 r=V.tup []∧
 ks=
 [⟨none,false,V.agg
 [(mdV l'16.m),.agg [.int .i64 l'16.2,.list false l'16.3],
 (fsV l'16.s),
 .agg
 [.agg
 (arrF 16 g9),
 .bool (LK.o l).2,.list false zs11,.int .i64 (LK.o l).4,.list false (LK.o l).5],
 .sl 1 (List.length l'16.6),.bool l'16.7,.bool l'16.8]⟩,
 ⟨some 79,false,V.agg l'16.6⟩])∧
 (l'16.8=false→
 r=V.tup []∧
 ks=
 [⟨none,false,(lkV l'16 1)⟩,
 ⟨some 79,false,V.agg l'16.6⟩])))∧
 (x0=false→
 SOk
 (arrF 16 (FS.f (LK.o l)))
 (LK.o l).3 (LK.o l).5∧
 ∃f21:Nat→Int×Int,
 (arrF 16 (FS.f (LK.o l)))=
 (arrF 16 f21)∧
 ∀(g22:Nat→Int×Int),
 g22=putF f21 tg n m a→
 ∀(zs24:List V),
 zs24=putZ (LK.o l).2 (LK.o l).3 tg n m a→
 ∀(ok26:Bool),
 ok26=putO (LK.o l).2 (LK.o l).3 tg n→
 ∃l28,
 (lkV l 1)=
 (lkV l28 1)∧
 l.6=l28.6∧
 ∀(l'29:LK),
 l'29=zW l28 ok26→
 (l'29.8=true→
 r=V.tup []∧
 ks=
 [⟨none,false,V.agg
 [(mdV l'29.m),.agg [.int .i64 l'29.2,.list false l'29.3],
 (fsV l'29.s),
 .agg
 [.agg
 (arrF 16 g22),
 .bool (LK.o l).2,.list false zs24,.int .i64 (LK.o l).4,.list false (LK.o l).5],
 .sl 1 (List.length l'29.6),.bool l'29.7,.bool l'29.8]⟩,
 ⟨some 79,false,V.agg l'29.6⟩])∧
 (l'29.8=false→
 r=V.tup []∧
 ks=
 [⟨none,false,(lkV l'29 1)⟩,
 ⟨some 79,false,V.agg l'29.6⟩]))):=by kernel_rfl
theorem nl48_0 (l:LK) (xs:List V) (n i m a:Int) (Nx Ex Rt:List V→List Blk→Prop):wC Try.prog sp48 23 zB (zO []) noLs 0 (zP Try.f48 0).2 1005 (List.zip [0,4,5,8,9,10] [.ptr 0 0 [],.ptr 1000 0 [],.ptr 1001 0 [],.list false xs,.int .i64 n,.int .i64 i]) (List.zip [0,1,1000,1001] [⟨none,false,lkV l 1⟩,⟨some 79,false,.agg l.es⟩,⟨none,false,.agg [.int .i64 0,.int .i64 0]⟩,⟨none,false,.agg [.int .i64 m,.int .i64 a]⟩]) (endK ends48_0 Nx Ex Rt)=(
 ∀(x0:Bool),
 x0=decide (i<n)→
 (x0=true→
 0≤i∧
 i<↑(List.length xs)∧
 ∃n9003 n9004 l5,
 getV xs i=V.agg [.int .i64 n9003,.int .i64 n9004,.list false l5]∧
 ∃l6,
 (lkV l 1)=
 (lkV l6 1)∧
 l.6=l6.6∧
 LOk l6∧
 ∀(q7:Int×Int),
 q7=whatK l6 n9003 n9004→
 ∃l9,
 (lkV l 1)=
 (lkV l9 1)∧
 l.6=l9.6∧
 ∀(l'10:LK),
 l'10=zW l9 (plain q7.1 q7.2)→
 ∀(x12:Int),
 x12=IntKind.wrap .i64 (i+1)→
 (∀(v14:V),List.Mem v14 l'10.6→V.ids v14=[])∧
 Nx [V.ptr 0 0 [],V.ptr 1000 0 [],V.ptr 1001 0 [],V.list false xs,V.int .i64 n,V.int .i64 x12]
 [⟨none,false,(lkV l'10 1)⟩,
 ⟨some 79,false,V.agg l'10.6⟩,⟨none,false,V.agg [.int .i64 0,.int .i64 0]⟩,⟨none,false,V.agg [.int .i64 q7.1,.int .i64 q7.2]⟩])∧
 (x0=false→
 (∀(v17:V),List.Mem v17 l.6→V.ids v17=[])∧
 Ex [V.ptr 1000 0 [],V.ptr 1001 0 []]
 [⟨none,false,(lkV l 1)⟩,
 ⟨some 79,false,V.agg l.6⟩,⟨none,false,V.agg [.int .i64 0,.int .i64 0]⟩,⟨none,false,V.agg [.int .i64 m,.int .i64 a]⟩])):=by kernel_rfl
theorem n48 (xs:List V) (l:LK) (r:V) (ks:List Blk):wC Try.prog sp48 23 zB (zO []) ls48 0 (zC Try.f48) 1000 (zL [.ptr 0 0 [],.list false xs] 0) [(0,⟨none,false,lkV l 1⟩),(1,⟨some 79,false,.agg l.es⟩)] (finQ Try.prog [] none Try.f48.results.toList [0,1] fun v bs=>r=v∧ks=bs)=(
 List.length xs≤9223372036854775807→
 ∀(x1:Int),
 x1=↑(List.length xs)→
 (∀(v3:V),List.Mem v3 l.6→V.ids v3=[])∧
 Int.ofNat 0=0∧
 x1=↑(List.length xs)∧
 ArgL xs∧
 List.length xs≤100000∧
 V.agg [.int .i64 0,.int .i64 0]=V.agg [.int .i64 0,.int .i64 0]∧
 ∃l5,
 (lkV l 1)=
 (lkV l5 1)∧
 l.6=l5.6∧
 LOk l5∧
 ∀(l'6:LK),
 l'6=srcL l5 xs→
 ∀(q8:Int×Int),
 q8=srcLast l5 (0,0) xs→
 r=V.agg [.int .i64 q8.1,.int .i64 q8.2]∧
 ks=
 [⟨none,false,(lkV l'6 1)⟩,
 ⟨some 79,false,V.agg l'6.6⟩]):=by kernel_rfl
theorem nl46_0 (l:LK) (s:FS) (ns:List V) (n i:Int) (Nx Ex Rt:List V→List Blk→Prop):wC Try.prog sp46 29 zB (zN Try.f46) noLs 0 (zP Try.f46 0).2 1004 (List.zip [0,4,8,9,10] [.ptr 0 0 [],.ptr 1000 0 [],.list false ns,.int .i64 n,.int .i64 i]) (List.zip [0,1,1000] [⟨none,false,lkV l 1⟩,⟨some 79,false,.agg l.es⟩,⟨none,false,fsV s⟩]) (endK ends46_0 Nx Ex Rt)=(
 ∀(x0:Bool),
 x0=decide (i<n)→
 (x0=true→
 0≤i∧
 i<↑(List.length ns)∧
 ∃n9003,
 getV ns i=V.int .i64 n9003∧
 ∀(x4:Bool),
 x4=(n9003 != 0)→
 (x4=true→
 (List.length l.6=List.length l.6∧
 79=79∧
 ((true||false)=true∧True)∧
 (∀(v7:V),
 List.Mem v7
 [V.agg
 [.int .i64 n9003,
 .agg
 [.agg
 (arrF 16 (FS.f s)),
 .bool s.2,.list false s.3,.int .i64 s.4,.list false s.5]]]→
 V.sz v7=37)∧
 some 37=some 37∧
 true=true∧
 ∃b6,
 some 328=some b6∧
 (List.length l.6+
 List.length
 [V.agg
 [.int .i64 n9003,
 .agg
 [.agg
 (arrF 16 (FS.f s)),
 .bool s.2,.list false s.3,.int .i64 s.4,.list false s.5]]])*
 b6≤
 140737488355328∧
 List.length l.6+
 List.length
 [V.agg
 [.int .i64 n9003,
 .agg
 [.agg
 (arrF 16 (FS.f s)),
 .bool s.2,.list false s.3,.int .i64 s.4,.list false s.5]]]≤
 9223372036854775807)∧
 ∀(x10:Int),
 x10=IntKind.wrap .i64 (i+1)→
 (∀(v12:V),
 List.Mem v12
 (l.6++
 [V.agg
 [.int .i64 n9003,
 .agg
 [.agg
 (arrF 16 (FS.f s)),
 .bool s.2,.list false s.3,.int .i64 s.4,.list false s.5]]])→
 V.ids v12=[])∧
 Nx [V.ptr 0 0 [],V.ptr 1000 0 [],V.list false ns,V.int .i64 n,V.int .i64 x10]
 [⟨none,false,V.agg
 [(mdV l.m),.agg [.int .i64 l.2,.list false l.3],
 (fsV l.s),
 (fsV l.o),
 .sl 1
 (List.length l.6+
 List.length
 [V.agg
 [.int .i64 n9003,
 .agg
 [.agg
 (arrF 16 (FS.f s)),
 .bool s.2,.list false s.3,.int .i64 s.4,.list false s.5]]]),
 .bool l.7,.bool l.8]⟩,
 ⟨some 79,false,V.agg
 (l.6++
 [V.agg
 [.int .i64 n9003,
 .agg
 [.agg
 (arrF 16 (FS.f s)),
 .bool s.2,.list false s.3,.int .i64 s.4,.list false s.5]]])⟩,
 ⟨none,false,V.agg
 [.agg
 (arrF 16 (FS.f s)),
 .bool s.2,.list false s.3,.int .i64 s.4,.list false s.5]⟩])∧
 (x4=false→
 ∀(x15:Int),
 x15=IntKind.wrap .i64 (i+1)→
 (∀(v17:V),List.Mem v17 l.6→V.ids v17=[])∧
 Nx [V.ptr 0 0 [],V.ptr 1000 0 [],V.list false ns,V.int .i64 n,V.int .i64 x15]
 [⟨none,false,(lkV l 1)⟩,
 ⟨some 79,false,V.agg l.6⟩,
 ⟨none,false,V.agg
 [.agg
 (arrF 16 (FS.f s)),
 .bool s.2,.list false s.3,.int .i64 s.4,.list false s.5]⟩]))∧
 (x0=false→
 (∀(v20:V),List.Mem v20 l.6→V.ids v20=[])∧
 Ex []
 [⟨none,false,(lkV l 1)⟩,
 ⟨some 79,false,V.agg l.6⟩])):=by kernel_rfl
theorem n46 (s:FS) (ns:List V) (l:LK) (r:V) (ks:List Blk):wC Try.prog sp46 29 zB (zN Try.f46) ls46 0 (zC Try.f46) 1000 (zL [.ptr 0 0 [],fsV s,.list false ns] 0) [(0,⟨none,false,lkV l 1⟩),(1,⟨some 79,false,.agg l.es⟩)] (finQ Try.prog [] none Try.f46.results.toList [0,1] fun v bs=>r=v∧ks=bs)=(
 List.length ns≤9223372036854775807→
 ∀(x1:Int),
 x1=↑(List.length ns)→
 (∀(v3:V),List.Mem v3 l.6→V.ids v3=[])∧
 Int.ofNat 0=0∧
 x1=↑(List.length ns)∧
 NLs ns∧
 List.length ns≤1000∧
 ∃f5:Nat→Int×Int,
 (arrF 16 (FS.f s))=
 (arrF 16 f5)∧
 ∃l6,
 (lkV l 1)=
 (lkV l6 1)∧
 l.6=l6.6∧
 LOk l6∧
 List.length l6.6≤5000∧
 ∀(l'7:LK),
 l'7=edgeL l6 ⟨f5,s.2,s.3,s.4,s.5⟩ ns→
 r=V.tup []∧
 ks=
 [⟨none,false,(lkV l'7 1)⟩,
 ⟨some 79,false,V.agg l'7.6⟩]):=by kernel_rfl
theorem nl73_0 (l:LK) (k:Nat) (n i:Int) (Nx Ex Rt:List V→List Blk→Prop):wC Try.prog sp73 28 (hintOf [(3001,52)]) (zO []) noLs 0 (zP Try.f73 0).2 1013 (List.zip [0,17,18,19] [.ptr 0 0 [],.own k [.ptr 0 8 [2,0]],.int .i64 n,.int .i64 i]) (List.zip [0,1] [⟨none,false,lkV l 1⟩,⟨some 79,false,.agg l.es⟩]) (endK ends73_0 Nx Ex Rt)=(
 ∀(x0:Bool),
 x0=decide (i<n)→
 (x0=true→
 0≤i∧
 i<↑k∧
 ∃n9003 n9004,
 subQ
 ((lkV l 1))
 [2,0,Int.toNat i]=
 some (V.agg [.int .i64 n9003,.int .i64 n9004])∧
 offQ
 ((lkV l 1))
 [2,0,Int.toNat i]=
 8+Int.toNat i*2∧
 ∃l5,
 (lkV l 1)=
 (lkV l5 1)∧
 l.6=l5.6∧
 ∀(l'6:LK),
 l'6=zW l5 (plain n9003 n9004)→
 ∀(x8:Int),
 x8=IntKind.wrap .i64 (i+1)→
 (∀(v10:V),List.Mem v10 l'6.6→V.ids v10=[])∧
 Nx [V.ptr 0 0 [],V.own k [V.ptr 0 8 [2,0]],V.int .i64 n,V.int .i64 x8]
 [⟨none,false,(lkV l'6 1)⟩,
 ⟨some 79,false,V.agg l'6.6⟩])∧
 (x0=false→
 (∀(v13:V),List.Mem v13 l.6→V.ids v13=[])∧
 Ex []
 [⟨none,false,(lkV l 1)⟩,
 ⟨some 79,false,V.agg l.6⟩])):=by kernel_rfl
theorem n73 (n:Int) (l:LK) (r:V) (ks:List Blk):wC Try.prog sp73 28 (hintOf [(3001,52)]) (zO []) ls73 0 (zC Try.f73) 1000 (zL [.ptr 0 0 [],.int .i64 n] 0) [(0,⟨none,false,lkV l 1⟩),(1,⟨some 79,false,.agg l.es⟩)] (finQ Try.prog [] none Try.f73.results.toList [0,1] fun v bs=>r=v∧ks=bs)=(
 ∀(x0:Bool),
 x0=decide (n≤16)→
 ∃l2,
 (lkV l 1)=
 (lkV l2 1)∧
 l.6=l2.6∧
 ∀(l'3:LK),
 l'3=zW l2 x0→
 ∀(x5:Bool),
 x5=!l'3.8→
 (x5=true→
 r=V.tup []∧
 ks=
 [⟨none,false,(lkV l'3 1)⟩,
 ⟨some 79,false,V.agg l'3.6⟩])∧
 (x5=false→
 ∀(z9:Int),
 (z9=if n<0 then 0 else n)→
 0≤z9∧
 z9≤↑16∧
 ∀(x11:Int),
 x11=↑(Int.toNat z9)→
 (∀(v13:V),List.Mem v13 l'3.6→V.ids v13=[])∧
 Int.ofNat 0=0∧
 x11=↑(Int.toNat z9)∧
 Int.toNat z9≤16∧
 ∃l15,
 (lkV l'3 1)=
 (lkV l15 1)∧
 l'3.6=l15.6∧
 LOk l15∧
 ∀(l'16:LK),
 l'16=⟨l15.1,l15.2,l15.3,l15.4,l15.5,l15.6,l15.7,if l15.8=true then plainsN (LK.s l15).1 0 (Int.toNat z9) else false⟩→
 r=V.tup []∧
 ks=
 [⟨none,false,(lkV l'16 1)⟩,
 ⟨some 79,false,V.agg l'16.6⟩])):=by kernel_rfl
end GoL
