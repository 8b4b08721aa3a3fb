/- A part of the proof: a logic proved sound over the model; contracts; plain laws. -/
import Derived.Test.YteeaefidpkifbaaGE
import Derived.Test.YteeaefidpkifbaaND
set_option linter.all false
open Go Go.Proofs
namespace GoL
set_option maxRecDepth 100000
theorem n64 (m a:Int) (r:V):wC Try.prog sp64 20 zB (zO []) noLs 0 (zC Try.f64) 1000 (zL [.int .i64 m,.int .i64 a] 0) [] (finK Try.prog none Try.f64.results.toList r)=(
 ∀(x0:Int),
 x0=bits .and .i64 m 511→
 ∀(x2:Bool),
 x2=(x0 != 16)→
 (x2=true→∀(x5:Bool),x5=(x0 != 256)→(x5=true→r=V.agg [.int .i64 x0,.int .i64 (-1)])∧(x5=false→∀(x9:Bool),x9=decide (a< -1)→(x9=true→r=V.agg [.int .i64 x0,.int .i64 (-1)])∧(x9=false→r=V.agg [.int .i64 x0,.int .i64 a])))∧
 (x2=false→∀(x14:Bool),x14=decide (a< -1)→(x14=true→r=V.agg [.int .i64 x0,.int .i64 (-1)])∧(x14=false→r=V.agg [.int .i64 x0,.int .i64 a]))):=by kernel_rfl
theorem n63 (m a:Int) (r:V):wC Try.prog sp63 8 zB (zO []) noLs 0 (zC Try.f63) 1000 (zL [.agg [.int .i64 m,.int .i64 a]] 0) [] (finK Try.prog none Try.f63.results.toList r)=(
 r=V.agg [.int .i64 (made m a).1,.int .i64 (made m a).2]):=by kernel_rfl
theorem n60 (m a x:Int) (r:V):wC Try.prog sp60 14 zB (zO []) noLs 0 (zC Try.f60) 1000 (zL [.agg [.int .i64 m,.int .i64 a],.int .i64 x] 0) [] (finK Try.prog none Try.f60.results.toList r)=(
 ∀(x0:Int),x0=bits .and .i64 (made m a).1 x→r=V.agg [.int .i64 (made x0 (Prod.snd (made m a))).1,.int .i64 (made x0 (Prod.snd (made m a))).2]):=by kernel_rfl
theorem n72 (m a:Int) (r:V):wC Try.prog sp72 14 zB (zO []) noLs 0 (zC Try.f72) 1000 (zL [.agg [.int .i64 m,.int .i64 a]] 0) [] (finK Try.prog none Try.f72.results.toList r)=(
 ∀(x0:Bool),x0=((made m a).1 != 0)→(x0=true→∀(x3:Int),x3=bits .andNot .i64 (made m a).1 127→∀(x5:Bool),x5=(x3==0)→r=V.bool x5)∧(x0=false→r=V.bool false)):=by kernel_rfl
theorem n65 (m a:Int) (r:V):wC Try.prog sp65 5 zB (zO []) noLs 0 (zC Try.f65) 1000 (zL [.agg [.int .i64 m,.int .i64 a]] 0) [] (finK Try.prog none Try.f65.results.toList r)=(
 r=V.agg [.int .i64 (meet m a (-1)).1,.int .i64 (meet m a (-1)).2]):=by kernel_rfl
theorem n43 (m a n b:Int) (r:V):wC Try.prog sp43 10 zB (zN Try.f43) noLs 0 (zC Try.f43) 1000 (zL [.agg [.int .i64 m,.int .i64 a],.agg [.int .i64 n,.int .i64 b]] 0) [] (finK Try.prog none Try.f43.results.toList r)=(
 StructEq Try.prog 52∧∀(x0:Bool),x0=((meet m a (-1)).1==(meet n b (-1)).1&&(meet m a (-1)).2==(meet n b (-1)).2)→r=V.bool x0):=by kernel_rfl
theorem n30 (r:V):wC Try.prog sp30 2 zB (zO []) noLs 0 (zC Try.f30) 1000 (zL [] 0) [] (finK Try.prog none Try.f30.results.toList r)=(
 r=V.agg [.int .i64 0,.int .i64 (-1)]):=by kernel_rfl
theorem n87 (m a:Int) (r:V):wC Try.prog sp87 6 zB (zN Try.f87) noLs 0 (zC Try.f87) 1000 (zL [.agg [.int .i64 m,.int .i64 a]] 0) [] (finK Try.prog none Try.f87.results.toList r)=(
 r=V.bool (alikeK m a 0 (-1))):=by kernel_rfl
theorem nl22_0 (f:Nat→Int×Int) (n i:Int) (Nx Ex Rt:List V→List Blk→Prop):wC Try.prog sp22 21 (hintOf [(5004,53),(7004,53)]) (zO []) noLs 0 (zP Try.f22 0).2 1003 (List.zip [0,2,3,5] [.int .i64 n,.ptr 1000 0 [],.ptr 1001 0 [],.int .i64 i]) (List.zip [1000,1001] [⟨none,false,zS⟩,⟨none,false,.agg [.agg (arrF 16 f),.bool false,.nils,.int .i64 0,.nils]⟩]) (endK ends22_0 Nx Ex Rt)=(
 ∀(x0:Bool),
 x0=decide (i<16)→
 (x0=true→
 0≤i∧
 i<↑16∧
 offQ
 (V.agg
 (arrF 16 f))
 [Int.toNat i]+
 0=
 0+Int.toNat i*2∧
 (∃u3,
 subQ
 (V.agg
 (arrF 16 f))
 [Int.toNat i]=
 some u3∧
 V.sz (V.agg [.int .i64 0,.int .i64 (-1)])=V.sz u3)∧
 ∃f4:Nat→Int×Int,
 V.agg
 (arrF 16 f4)=
 updQ (V.agg [.int .i64 0,.int .i64 (-1)])
 (V.agg
 (arrF 16 f))
 [Int.toNat i]∧
 ∀(x5:Bool),
 x5=decide (i<n)→
 (x5=true→
 0≤i∧
 i<↑16∧
 offQ
 (V.agg
 (arrF 16 f4))
 [Int.toNat i]+
 0=
 0+Int.toNat i*2∧
 (∃u8,
 subQ
 (V.agg
 (arrF 16 f4))
 [Int.toNat i]=
 some u8∧
 V.sz (V.agg [.int .i64 127,.int .i64 (-1)])=V.sz u8)∧
 ∃f9:Nat→Int×Int,
 V.agg
 (arrF 16 f9)=
 updQ (V.agg [.int .i64 127,.int .i64 (-1)])
 (V.agg
 (arrF 16 f4))
 [Int.toNat i]∧
 ∀(x10:Int),
 x10=IntKind.wrap .i64 (i+1)→
 Nx [V.int .i64 n,V.ptr 1000 0 [],V.ptr 1001 0 [],V.int .i64 x10]
 [⟨none,false,V.agg
 [.agg
 (arrF 16 zF),
 .bool false,.nils,.int .i64 0,.nils]⟩,
 ⟨none,false,V.agg
 [.agg
 (arrF 16 f9),
 .bool false,.nils,.int .i64 0,.nils]⟩])∧
 (x5=false→
 ∀(x13:Int),
 x13=IntKind.wrap .i64 (i+1)→
 Nx [V.int .i64 n,V.ptr 1000 0 [],V.ptr 1001 0 [],V.int .i64 x13]
 [⟨none,false,V.agg
 [.agg
 (arrF 16 zF),
 .bool false,.nils,.int .i64 0,.nils]⟩,
 ⟨none,false,V.agg
 [.agg
 (arrF 16 f4),
 .bool false,.nils,.int .i64 0,.nils]⟩]))∧
 (x0=false→
 Ex [V.ptr 1000 0 [],V.ptr 1001 0 []]
 [⟨none,false,V.agg
 [.agg
 (arrF 16 zF),
 .bool false,.nils,.int .i64 0,.nils]⟩,
 ⟨none,false,V.agg
 [.agg
 (arrF 16 f),
 .bool false,.nils,.int .i64 0,.nils]⟩])):=by kernel_rfl
theorem n22 (n:Int) (r:V):wC Try.prog sp22 21 (hintOf [(5004,53),(7004,53)]) (zO []) ls22 0 (zC Try.f22) 1000 (zL [.int .i64 n] 0) [] (finK Try.prog none Try.f22.results.toList r)=(
 Int.ofNat 0=0∧
 V.agg
 [.agg
 (arrF 16 zF),
 .bool false,.nils,.int .i64 0,.nils]=
 V.agg
 [.agg
 (arrF 16 zF),
 .bool false,.nils,.int .i64 0,.nils]∧
 Int.ofNat 0=0∧
 (∃f0:Nat→Int×Int,
 (arrF 16 zF)=
 (arrF 16 f0))∧
 r=
 V.agg
 [.agg
 (arrF 16 (entF n)),
 .bool false,.list false [],.int .i64 0,.list false []]):=by kernel_rfl
theorem n40 (f:Nat→Int×Int) (fr:Bool) (ys ts:List V) (rm:Int) (r:V):wC Try.prog sp40 26 zB (zO []) noLs 0 (zC Try.f40) 1000 (zL [.agg [.agg (arrF 16 f),.bool fr,.list false ys,.int .i64 rm,.list false ts]] 0) [] (finK Try.prog none Try.f40.results.toList r)=(
 List.length ys≤9223372036854775807→
 ∀(x1:Int),
 x1=↑(List.length ys)→
 (0≤x1∧x1≤x1∧x1≤↑9223372036854775807∧↑16*x1≤281474976710656∧true=true)∧
 (True→
 (Int.toNat x1=List.length (List.replicate (Int.toNat x1) (V.agg [.int .i64 0,.int .i64 0]))∧52=52∧some 2=some 2∧True∧(∀(v4:V),List.Mem v4 ys→V.sz v4=2)∧(∀(j6:Nat),V.list false ys≠V.sl 1005 j6)∧∀(s26:List UInt8),V.list false ys≠V.str s26)∧
 (True→
 ∀(x9:Int),
 x9=↑(min (List.length ys) (List.length (List.replicate (Int.toNat x1) (V.agg [.int .i64 0,.int .i64 0]))))→
 List.length ts≤9223372036854775807→
 ∀(x12:Int),
 x12=↑(List.length ts)→
 (0≤x12∧x12≤x12∧x12≤↑9223372036854775807∧↑8*x12≤281474976710656∧true=true)∧
 (True→
 (Int.toNat x12=List.length (List.replicate (Int.toNat x12) (V.int .i64 0))∧3=3∧some 1=some 1∧True∧(∀(v15:V),List.Mem v15 ts→V.sz v15=1)∧(∀(j17:Nat),V.list false ts≠V.sl 1014 j17)∧∀(s15:List UInt8),V.list false ts≠V.str s15)∧
 (True→
 ∀(x20:Int),
 x20=↑(min (List.length ts) (List.length (List.replicate (Int.toNat x12) (V.int .i64 0))))→
 Int.toNat x1=List.length (List.take (List.length (List.replicate (Int.toNat x1) (V.agg [.int .i64 0,.int .i64 0]))) ys++List.drop (List.length ys) (List.replicate (Int.toNat x1) (V.agg [.int .i64 0,.int .i64 0])))∧
 Int.toNat x12=List.length (List.take (List.length (List.replicate (Int.toNat x12) (V.int .i64 0))) ts++List.drop (List.length ts) (List.replicate (Int.toNat x12) (V.int .i64 0)))∧
 r=
 V.agg
 [.agg
 (arrF 16 f),
 .bool fr,.list false (List.take (List.length (List.replicate (Int.toNat x1) (V.agg [.int .i64 0,.int .i64 0]))) ys++List.drop (List.length ys) (List.replicate (Int.toNat x1) (V.agg [.int .i64 0,.int .i64 0]))),.int .i64 rm,
 .list false (List.take (List.length (List.replicate (Int.toNat x12) (V.int .i64 0))) ts++List.drop (List.length ts) (List.replicate (Int.toNat x12) (V.int .i64 0)))]))))):=by kernel_rfl
theorem n93 (f:Nat→Int×Int) (fr:Bool) (ys ts:List V) (rm:Int) (n:Int) (r:V):wC Try.prog sp93 18 zB (zO []) noLs 0 (zC Try.f93) 1000 (zL [.agg [.agg (arrF 16 f),.bool fr,.list false ys,.int .i64 rm,.list false ts],.int .i64 n] 0) [] (finK Try.prog none Try.f93.results.toList r)=(
 (fr=true→∀(x1:Bool),x1=decide (n≥0)→(x1=true→List.length ys≤9223372036854775807→∀(x5:Int),x5=↑(List.length ys)→∀(x7:Bool),x7=decide (n<x5)→r=V.bool x7)∧(x1=false→r=V.bool false))∧(fr=false→r=V.bool false)):=by kernel_rfl
theorem nl61_0 (f:Nat→Int×Int) (fr:Bool) (ys ts:List V) (rm:Int) (i:Int) (Nx Ex Rt:List V→List Blk→Prop):wC Try.prog sp61 20 (hintOf [(5004,53)]) (zO []) noLs 0 (zP Try.f61 0).2 1007 (List.zip [2,4,5] [.ptr 1000 0 [],.ptr 1001 0 [],.int .i64 i]) (List.zip [1000,1001] [⟨none,false,.agg [.agg (arrF 16 f),.bool fr,.list false ys,.int .i64 rm,.list false ts]⟩,⟨none,false,zS⟩]) (endK ends61_0 Nx Ex Rt)=(
 ∀(x0:Bool),
 x0=decide (i<16)→
 (x0=true→
 0≤i∧
 i<↑16∧
 offQ
 (V.agg
 (arrF 16 f))
 [Int.toNat i]+
 0=
 0+Int.toNat i*2∧
 (∃u3,
 subQ
 (V.agg
 (arrF 16 f))
 [Int.toNat i]=
 some u3∧
 V.sz (V.agg [.int .i64 0,.int .i64 (-1)])=V.sz u3)∧
 ∃f4:Nat→Int×Int,
 V.agg
 (arrF 16 f4)=
 updQ (V.agg [.int .i64 0,.int .i64 (-1)])
 (V.agg
 (arrF 16 f))
 [Int.toNat i]∧
 ∀(x5:Int),
 x5=IntKind.wrap .i64 (i+1)→
 Nx [V.ptr 1000 0 [],V.ptr 1001 0 [],V.int .i64 x5]
 [⟨none,false,V.agg
 [.agg
 (arrF 16 f4),
 .bool fr,.list false ys,.int .i64 rm,.list false ts]⟩,
 ⟨none,false,V.agg
 [.agg
 (arrF 16 zF),
 .bool false,.nils,.int .i64 0,.nils]⟩])∧
 (x0=false→
 Ex [V.ptr 1000 0 [],V.ptr 1001 0 []]
 [⟨none,false,V.agg
 [.agg
 (arrF 16 f),
 .bool fr,.list false ys,.int .i64 rm,.list false ts]⟩,
 ⟨none,false,V.agg
 [.agg
 (arrF 16 zF),
 .bool false,.nils,.int .i64 0,.nils]⟩])):=by kernel_rfl
theorem n61 (f:Nat→Int×Int) (fr:Bool) (ys ts:List V) (rm:Int) (n:Int) (r:V):wC Try.prog sp61 20 (hintOf [(5004,53)]) (zO []) ls61 0 (zC Try.f61) 1000 (zL [.agg [.agg (arrF 16 f),.bool fr,.list false ys,.int .i64 rm,.list false ts],.int .i64 n] 0) [] (finK Try.prog none Try.f61.results.toList r)=(
 SOk
 (arrF 16 f)
 ys ts∧
 ∀(z0:Int),
 (z0=if 16<n then 16 else n)→
 ∀(z2:Int),
 (z2=if 0<z0 then z0 else 0)→
 0≤z2∧
 V.agg
 [.agg
 (arrF 16 zF),
 .bool false,.nils,.int .i64 0,.nils]=
 V.agg
 [.agg
 (arrF 16 zF),
 .bool false,.nils,.int .i64 0,.nils]∧
 ∃f4:Nat→Int×Int,
 (arrF 16 f)=
 (arrF 16 f4)∧
 r=
 V.agg
 [.agg
 (arrF 16 (cutF f4 z2)),
 .bool fr,.list false ys,.int .i64 rm,.list false ts]):=by kernel_rfl
theorem nl75_0 (xs:List V) (n i:Int) (Nx Ex Rt:List V→List Blk→Prop):wC Try.prog sp75 30 zB (zO []) noLs 0 (zP Try.f75 0).2 1013 (List.zip [15,16,17] [.list false xs,.int .i64 n,.int .i64 i]) (List.zip [] []) (endK ends75_0 Nx Ex Rt)=(
 ∀(x0:Bool),
 x0=decide (i<n)→
 (x0=true→
 0≤i∧
 i<↑(List.length xs)∧
 ∃n9003 n9004,
 getV xs i=V.agg [.int .i64 n9003,.int .i64 n9004]∧
 (plain n9003 n9004=true→∀(x6:Int),x6=IntKind.wrap .i64 (i+1)→Nx [V.list false xs,V.int .i64 n,V.int .i64 x6] [])∧
 (plain n9003 n9004=false→∀(x9:Bool),x9=((meet n9003 n9004 (-1)).1==128)→(x9=true→∀(x12:Int),x12=IntKind.wrap .i64 (i+1)→Nx [V.list false xs,V.int .i64 n,V.int .i64 x12] [])∧(x9=false→Rt [V.gd true (V.bool false)] [])))∧
 (x0=false→Ex [] [])):=by kernel_rfl
theorem n75 (f:Nat→Int×Int) (fr:Bool) (ys ts:List V) (rm:Int) (n:Int) (r:V):wC Try.prog sp75 30 zB (zO []) ls75 0 (zC Try.f75) 1000 (zL [.agg [.agg (arrF 16 f),.bool fr,.list false ys,.int .i64 rm,.list false ts],.int .i64 n] 0) [] (finK Try.prog none Try.f75.results.toList r)=(
 ∀(x0:Bool),
 x0=decide (n<0)→
 (x0=true→r=V.bool false)∧
 (x0=false→
 ∀(x4:Bool),
 x4=decide (n>16)→
 (x4=true→r=V.bool false)∧
 (x4=false→
 0≤n∧
 n≤↑16∧
 ∀(ys8:List V),
 ys8=
 List.take (Int.toNat n)
 (arrF 16 f)→
 List.length ys8≤9223372036854775807→∀(x11:Int),x11=↑(List.length ys8)→Int.ofNat 0=0∧x11=↑(List.length ys8)∧List.length ys8≤100000∧KLs ys8∧(goods ys8=true→r=V.bool true)∧(goods ys8=false→r=V.bool false)))):=by kernel_rfl
theorem nl92_0 (ys:List V) (n i:Int) (Nx Ex Rt:List V→List Blk→Prop):wC Try.prog sp92 19 zB (zO []) noLs 0 (zP Try.f92 0).2 1004 (List.zip [0,1,7,8] [.list false ys,.fn 87 [],.int .i64 n,.int .i64 i]) (List.zip [] []) (endK ends92_0 Nx Ex Rt)=(
 ∀(x0:Bool),
 x0=decide (i<n)→(x0=true→0≤i∧i<↑(List.length ys)∧∃n9003 n9004,getV ys i=V.agg [.int .i64 n9003,.int .i64 n9004]∧(alikeK n9003 n9004 0 (-1)=true→Rt [V.int .i64 i] [])∧(alikeK n9003 n9004 0 (-1)=false→∀(x7:Int),x7=IntKind.wrap .i64 (i+1)→Nx [V.list false ys,V.fn 87 [],V.int .i64 n,V.int .i64 x7] []))∧(x0=false→Ex [] [])):=by kernel_rfl
theorem n92 (ys:List V) (r:V):wC Try.prog sp92 19 zB (zO []) ls92 0 (zC Try.f92) 1000 (zL [.list false ys,.fn 87 []] 0) [] (finK Try.prog none Try.f92.results.toList r)=(
 List.length ys≤9223372036854775807→∀(x1:Int),x1=↑(List.length ys)→Int.ofNat 0=0∧x1=↑(List.length ys)∧List.length ys≤100000∧KLs ys∧(idxF ys 0=-1→r=V.int .i64 (-1))∧(0≤idxF ys 0→r=V.int .i64 (idxF ys 0))):=by kernel_rfl
theorem n86 (ys:List V) (r:V):wC Try.prog sp86 9 zB (zO []) noLs 0 (zC Try.f86) 1000 (zL [.list false ys,.fn 87 []] 0) [] (finK Try.prog none Try.f86.results.toList r)=(
 KLs ys∧List.length ys≤100000∧∀(x0:Bool),x0=decide (idxF ys 0≥0)→r=V.bool x0):=by kernel_rfl
theorem n59 (f:Nat→Int×Int) (fr:Bool) (ys ts:List V) (rm:Int) (r:V):wC Try.prog sp59 12 zB (zO []) noLs 0 (zC Try.f59) 1000 (zL [.agg [.agg (arrF 16 f),.bool fr,.list false ys,.int .i64 rm,.list false ts]] 0) [] (finK Try.prog none Try.f59.results.toList r)=(
 ∀(x0:Bool),x0=!fr→(x0=true→r=V.bool true)∧(x0=false→KLs ys∧List.length ys≤100000∧∀(x4:Bool),x4=!decide (idxF ys 0≥0)→r=V.bool x4)):=by kernel_rfl
theorem n40h (f:Nat→Int×Int) (fr:Bool) (ys ts:List V) (rm:Int) (r:V) (ks:List Blk):wC Try.prog sp40 26 (hintOf [(6999,1014)]) (zO []) noLs 0 (zC Try.f40) 1000 (zL [.agg [.agg (arrF 16 f),.bool fr,.list false ys,.int .i64 rm,.list false ts]] 0) [] (finC Try.prog none Try.f40.results.toList [1005] fun v bs=>r=v∧ks=bs)=(
 List.length ys≤9223372036854775807→
 ∀(x1:Int),
 x1=↑(List.length ys)→
 (0≤x1∧x1≤x1∧x1≤↑9223372036854775807∧↑16*x1≤281474976710656∧true=true)∧
 (True→
 (Int.toNat x1=List.length (List.replicate (Int.toNat x1) (V.agg [.int .i64 0,.int .i64 0]))∧52=52∧some 2=some 2∧True∧(∀(v4:V),List.Mem v4 ys→V.sz v4=2)∧(∀(j6:Nat),V.list false ys≠V.sl 1005 j6)∧∀(s26:List UInt8),V.list false ys≠V.str s26)∧
 (True→
 ∀(x9:Int),
 x9=↑(min (List.length ys) (List.length (List.replicate (Int.toNat x1) (V.agg [.int .i64 0,.int .i64 0]))))→
 List.length ts≤9223372036854775807→
 ∀(x12:Int),
 x12=↑(List.length ts)→
 (0≤x12∧x12≤x12∧x12≤↑9223372036854775807∧↑8*x12≤281474976710656∧true=true)∧
 (True→
 (Int.toNat x12=List.length (List.replicate (Int.toNat x12) (V.int .i64 0))∧3=3∧some 1=some 1∧True∧(∀(v15:V),List.Mem v15 ts→V.sz v15=1)∧(∀(j17:Nat),V.list false ts≠V.sl 1014 j17)∧∀(s15:List UInt8),V.list false ts≠V.str s15)∧
 (True→
 ∀(x20:Int),
 x20=↑(min (List.length ts) (List.length (List.replicate (Int.toNat x12) (V.int .i64 0))))→
 Int.toNat x12=List.length (List.take (List.length (List.replicate (Int.toNat x12) (V.int .i64 0))) ts++List.drop (List.length ts) (List.replicate (Int.toNat x12) (V.int .i64 0)))∧
 r=
 V.agg
 [.agg
 (arrF 16 f),
 .bool fr,.sl 1005 (Int.toNat x1),.int .i64 rm,.list false (List.take (List.length (List.replicate (Int.toNat x12) (V.int .i64 0))) ts++List.drop (List.length ts) (List.replicate (Int.toNat x12) (V.int .i64 0)))]∧
 ks=[⟨some 52,false,V.agg (List.take (List.length (List.replicate (Int.toNat x1) (V.agg [.int .i64 0,.int .i64 0]))) ys++List.drop (List.length ys) (List.replicate (Int.toNat x1) (V.agg [.int .i64 0,.int .i64 0])))⟩]))))):=by kernel_rfl
theorem n91 (f:Nat→Int×Int) (fr:Bool) (ys ts:List V) (rm:Int) (tg n m a:Int) (ls:List V) (r:V):wC Try.prog sp91 64 (hintOf [(3006,53),(7007,52)]) (zN Try.f91) noLs 0 (zC Try.f91) 1000 (zL [.agg [.agg (arrF 16 f),.bool fr,.list false ys,.int .i64 rm,.list false ts],.agg [.int .i64 tg,.int .i64 n,.list false ls],.agg [.int .i64 m,.int .i64 a]] 0) [] (finK Try.prog none Try.f91.results.toList r)=(
 ∀(x0:Bool),
 x0=(tg==3)→
 (x0=true→
 ∀(x3:Bool),
 x3=decide (n≥0)→
 (x3=true→
 ∀(x6:Bool),
 x6=decide (n<16)→
 (x6=true→
 SOk
 (arrF 16 f)
 ys ts∧
 ∀(zs9:List V),
 zs9=ys→
 0≤n∧
 n<↑16∧
 offQ
 (V.agg
 (arrF 16 f))
 [Int.toNat n]+
 0=
 0+Int.toNat n*2∧
 (∃u11,
 subQ
 (V.agg
 (arrF 16 f))
 [Int.toNat n]=
 some u11∧
 V.sz (V.agg [.int .i64 (meet m a (-1)).1,.int .i64 (meet m a (-1)).2])=V.sz u11)∧
 ∃f12:Nat→Int×Int,
 V.agg
 (arrF 16 f12)=
 updQ (V.agg [.int .i64 (meet m a (-1)).1,.int .i64 (meet m a (-1)).2])
 (V.agg
 (arrF 16 f))
 [Int.toNat n]∧
 List.length zs9=List.length zs9∧
 r=
 V.tup
 [.agg
 [.agg
 (arrF 16 f12),
 .bool fr,.list false zs9,.int .i64 rm,.list false ts],
 .bool true])∧
 (x6=false→
 ∀(x14:Bool),
 x14=(tg==4)→
 (x14=true→
 SOk
 (arrF 16 f)
 ys ts∧
 (slotB fr ys n=true→
 0≤n∧
 n<↑(List.length ys)∧
 ∃n15 n33,
 getV ys n=V.agg [.int .i64 n15,.int .i64 n33]∧
 ∀(x20:Int),
 x20=bits .and .i64 (meet n15 n33 (-1)).1 256→
 ∀(x22:Bool),
 x22=(x20==0)→
 (x22=true→
 SOk
 (arrF 16 f)
 ys ts∧
 ∀(zs25:List V),
 zs25=ys→
 List.length zs25=List.length zs25∧
 0≤n∧
 n<↑(List.length zs25)∧
 some 2=some 2∧
 List.length zs25=List.length zs25∧
 [Int.toNat n]≠[]∧
 offQ (V.agg zs25) [Int.toNat n]=Int.toNat n*2∧
 (∃u27,subQ (V.agg zs25) [Int.toNat n]=some u27∧V.sz (V.agg [.int .i64 (meet m a (-1)).1,.int .i64 (meet m a (-1)).2])=V.sz u27∧V.sz (V.agg [.int .i64 (meet m a (-1)).1,.int .i64 (meet m a (-1)).2])=V.sz u27)∧
 ∃rows'28,
 V.agg rows'28=updQ (V.agg [.int .i64 (meet m a (-1)).1,.int .i64 (meet m a (-1)).2]) (V.agg zs25) [Int.toNat n]∧
 List.length zs25=List.length rows'28∧
 r=
 V.tup
 [.agg
 [.agg
 (arrF 16 f),
 .bool fr,.list false rows'28,.int .i64 rm,.list false ts],
 .bool true])∧
 (x22=false→
 r=
 V.tup
 [.agg
 [.agg
 (arrF 16 f),
 .bool fr,.list false ys,.int .i64 rm,.list false ts],
 .bool false]))∧
 (slotB fr ys n=false→
 r=
 V.tup
 [.agg
 [.agg
 (arrF 16 f),
 .bool fr,.list false ys,.int .i64 rm,.list false ts],
 .bool false]))∧
 (x14=false→
 r=
 V.tup
 [.agg
 [.agg
 (arrF 16 f),
 .bool fr,.list false ys,.int .i64 rm,.list false ts],
 .bool false])))∧
 (x3=false→
 ∀(x33:Bool),
 x33=(tg==4)→
 (x33=true→
 SOk
 (arrF 16 f)
 ys ts∧
 (slotB fr ys n=true→
 0≤n∧
 n<↑(List.length ys)∧
 ∃n50 n51,
 getV ys n=V.agg [.int .i64 n50,.int .i64 n51]∧
 ∀(x39:Int),
 x39=bits .and .i64 (meet n50 n51 (-1)).1 256→
 ∀(x41:Bool),
 x41=(x39==0)→
 (x41=true→
 SOk
 (arrF 16 f)
 ys ts∧
 ∀(zs44:List V),
 zs44=ys→
 List.length zs44=List.length zs44∧
 0≤n∧
 n<↑(List.length zs44)∧
 some 2=some 2∧
 List.length zs44=List.length zs44∧
 [Int.toNat n]≠[]∧
 offQ (V.agg zs44) [Int.toNat n]=Int.toNat n*2∧
 (∃u46,subQ (V.agg zs44) [Int.toNat n]=some u46∧V.sz (V.agg [.int .i64 (meet m a (-1)).1,.int .i64 (meet m a (-1)).2])=V.sz u46∧V.sz (V.agg [.int .i64 (meet m a (-1)).1,.int .i64 (meet m a (-1)).2])=V.sz u46)∧
 ∃rows'47,
 V.agg rows'47=updQ (V.agg [.int .i64 (meet m a (-1)).1,.int .i64 (meet m a (-1)).2]) (V.agg zs44) [Int.toNat n]∧
 List.length zs44=List.length rows'47∧
 r=
 V.tup
 [.agg
 [.agg
 (arrF 16 f),
 .bool fr,.list false rows'47,.int .i64 rm,.list false ts],
 .bool true])∧
 (x41=false→
 r=
 V.tup
 [.agg
 [.agg
 (arrF 16 f),
 .bool fr,.list false ys,.int .i64 rm,.list false ts],
 .bool false]))∧
 (slotB fr ys n=false→
 r=
 V.tup
 [.agg
 [.agg
 (arrF 16 f),
 .bool fr,.list false ys,.int .i64 rm,.list false ts],
 .bool false]))∧
 (x33=false→
 r=
 V.tup
 [.agg
 [.agg
 (arrF 16 f),
 .bool fr,.list false ys,.int .i64 rm,.list false ts],
 .bool false])))∧
 (x0=false→
 ∀(x52:Bool),
 x52=(tg==4)→
 (x52=true→
 SOk
 (arrF 16 f)
 ys ts∧
 (slotB fr ys n=true→
 0≤n∧
 n<↑(List.length ys)∧
 ∃n70 n71,
 getV ys n=V.agg [.int .i64 n70,.int .i64 n71]∧
 ∀(x58:Int),
 x58=bits .and .i64 (meet n70 n71 (-1)).1 256→
 ∀(x60:Bool),
 x60=(x58==0)→
 (x60=true→
 SOk
 (arrF 16 f)
 ys ts∧
 ∀(zs63:List V),
 zs63=ys→
 List.length zs63=List.length zs63∧
 0≤n∧
 n<↑(List.length zs63)∧
 some 2=some 2∧
 List.length zs63=List.length zs63∧
 [Int.toNat n]≠[]∧
 offQ (V.agg zs63) [Int.toNat n]=Int.toNat n*2∧
 (∃u65,subQ (V.agg zs63) [Int.toNat n]=some u65∧V.sz (V.agg [.int .i64 (meet m a (-1)).1,.int .i64 (meet m a (-1)).2])=V.sz u65∧V.sz (V.agg [.int .i64 (meet m a (-1)).1,.int .i64 (meet m a (-1)).2])=V.sz u65)∧
 ∃rows'66,
 V.agg rows'66=updQ (V.agg [.int .i64 (meet m a (-1)).1,.int .i64 (meet m a (-1)).2]) (V.agg zs63) [Int.toNat n]∧
 List.length zs63=List.length rows'66∧
 r=
 V.tup
 [.agg
 [.agg
 (arrF 16 f),
 .bool fr,.list false rows'66,.int .i64 rm,.list false ts],
 .bool true])∧
 (x60=false→
 r=
 V.tup
 [.agg
 [.agg
 (arrF 16 f),
 .bool fr,.list false ys,.int .i64 rm,.list false ts],
 .bool false]))∧
 (slotB fr ys n=false→
 r=
 V.tup
 [.agg
 [.agg
 (arrF 16 f),
 .bool fr,.list false ys,.int .i64 rm,.list false ts],
 .bool false]))∧
 (x52=false→
 r=
 V.tup
 [.agg
 [.agg
 (arrF 16 f),
 .bool fr,.list false ys,.int .i64 rm,.list false ts],
 .bool false]))):=by kernel_rfl
theorem n88 (f:Nat→Int×Int) (fr:Bool) (ys ts:List V) (rm:Int) (tg n:Int) (ls ms:List V) (r:V):wC Try.prog sp88 67 (hintOf [(4004,52)]) (zO []) noLs 0 (zC Try.f88) 1000 (zL [.agg [.agg (arrF 16 f),.bool fr,.list false ys,.int .i64 rm,.list false ts],.agg [.int .i64 tg,.int .i64 n,.list false ls],.list false ms] 0) [] (finK Try.prog none Try.f88.results.toList r)=(
 ∀(x0:Bool),
 x0=(tg==3)→
 (x0=true→
 ∀(x3:Bool),
 x3=decide (n≥0)→
 (x3=true→
 ∀(x6:Bool),
 x6=decide (n<16)→
 (x6=true→
 0≤n∧
 n<↑16∧
 ∃n6 n22,
 subQ
 (V.agg
 [.agg
 (arrF 16 f),
 .bool fr,.list false ys,.int .i64 rm,.list false ts])
 [0,Int.toNat n]=
 some (V.agg [.int .i64 n6,.int .i64 n22])∧
 offQ
 (V.agg
 [.agg
 (arrF 16 f),
 .bool fr,.list false ys,.int .i64 rm,.list false ts])
 [0,Int.toNat n]=
 0+Int.toNat n*2∧
 r=V.agg [.int .i64 (meet n6 n22 (-1)).1,.int .i64 (meet n6 n22 (-1)).2])∧
 (x6=false→r=V.agg [.int .i64 0,.int .i64 (-1)]))∧
 (x3=false→r=V.agg [.int .i64 0,.int .i64 (-1)]))∧
 (x0=false→
 ∀(x14:Bool),
 x14=(tg==4)→
 (x14=true→
 SOk
 (arrF 16 f)
 ys ts∧
 (slotB fr ys n=true→0≤n∧n<↑(List.length ys)∧∃n15 n33,getV ys n=V.agg [.int .i64 n15,.int .i64 n33]∧r=V.agg [.int .i64 (meet n15 n33 (-1)).1,.int .i64 (meet n15 n33 (-1)).2])∧(slotB fr ys n=false→r=V.agg [.int .i64 0,.int .i64 (-1)]))∧
 (x14=false→
 ∀(x22:Bool),
 x22=(tg==1)→
 (x22=true→r=V.agg [.int .i64 1,.int .i64 (-1)])∧
 (x22=false→
 ∀(x26:Bool),
 x26=(tg==2)→
 (x26=true→∀(x29:Bool),x29=(n==0)→(x29=true→r=V.agg [.int .i64 4,.int .i64 (-1)])∧(x29=false→r=V.agg [.int .i64 2,.int .i64 (-1)]))∧
 (x26=false→
 ∀(x34:Bool),
 x34=(tg==6)→
 (x34=true→
 ∀(x37:Bool),
 x37=decide (n≥0)→
 (x37=true→
 List.length ms≤9223372036854775807→
 ∀(x41:Int),
 x41=↑(List.length ms)→
 ∀(x43:Bool),
 x43=decide (n<x41)→
 (x43=true→0≤n∧n<↑(List.length ms)∧∃n60 b61 l48 s9049 n63 l51,getV ms n=V.agg [.int .i64 n60,.agg [.bool b61,.list false l48],.str s9049,.int .i64 n63,.list false l51]∧r=V.agg [.int .i64 (kOf n60 n63 (List.length l51)).1,.int .i64 (kOf n60 n63 (List.length l51)).2])∧
 (x43=false→r=V.agg [.int .i64 0,.int .i64 (-1)]))∧
 (x37=false→r=V.agg [.int .i64 0,.int .i64 (-1)]))∧
 (x34=false→r=V.agg [.int .i64 0,.int .i64 (-1)])))))):=by kernel_rfl
theorem n94 (K N:Int) (nb:Bool) (l ks:List V) (q:List UInt8) (r:V):wC Try.prog sp94 30 zB (zO []) noLs 0 (zC Try.f94) 1000 (zL [.agg [.int .i64 K,.agg [.bool nb,.list false l],.str q,.int .i64 N,.list false ks]] 0) [] (finK Try.prog none Try.f94.results.toList r)=(
 ∀(x0:Bool),
 x0=(K==5)→
 (x0=true→List.length ks≤9223372036854775807→∀(x4:Int),x4=↑(List.length ks)→r=V.agg [.int .i64 (Int.ofNat 16),.int .i64 (made 16 x4).2])∧
 (x0=false→
 ∀(x7:Bool),
 x7=(K==9)→
 (x7=true→r=V.agg [.int .i64 (Int.ofNat 256),.int .i64 (made 256 N).2])∧
 (x7=false→
 ∀(x11:Bool),
 x11=decide (K<1)→
 (x11=true→r=V.agg [.int .i64 (Int.ofNat 0),.int .i64 (Int.negSucc 0)])∧
 (x11=false→
 ∀(x15:Bool),
 x15=decide (K>9)→
 (x15=true→r=V.agg [.int .i64 (Int.ofNat 0),.int .i64 (Int.negSucc 0)])∧(x15=false→∀(x19:Int),x19=IntKind.wrap .i64 (K-1)→0≤x19∧(True→∀(x22:Int),x22=IntKind.wrap .i64 (1*2 ^ min (Int.toNat x19) 64)→r=V.agg [.int .i64 (made x22 (-1)).1,.int .i64 (made x22 (-1)).2])))))):=by kernel_rfl
end GoL
