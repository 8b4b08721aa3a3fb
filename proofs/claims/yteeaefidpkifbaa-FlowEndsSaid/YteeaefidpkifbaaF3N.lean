/- A part of the proof: a logic proved sound over the model; contracts; plain laws. -/
import Derived.Test.YteeaefidpkifbaaF3D
set_option linter.all false
open Go Go.Proofs
namespace GoL
set_option maxRecDepth 100000
theorem n41 (m a n b:Int) (r:V):wC Try.prog sp41 35 zB (zN Try.f41) noLs 0 (zC Try.f41) 1000 (zL [.agg [.int .i64 m,.int .i64 a],.agg [.int .i64 n,.int .i64 b]] 0) [] (finK Try.prog none Try.f41.results.toList r)=(
 StructEq Try.prog 52∧
 (True→
 ∀(x1:Bool),
 x1=((made m a).1==Int.ofNat 0&&(made m a).2==Int.negSucc 0)→
 (x1=true→r=V.agg [.int .i64 (Int.ofNat 0),.int .i64 (Int.negSucc 0)])∧
 (x1=false→
 StructEq Try.prog 52∧
 (True→
 ∀(x6:Bool),
 x6=((made n b).1==Int.ofNat 0&&(made n b).2==Int.negSucc 0)→
 (x6=true→r=V.agg [.int .i64 (Int.ofNat 0),.int .i64 (Int.negSucc 0)])∧
 (x6=false→
 ∀(x10:Bool),
 x10=((made m a).2==(made n b).2)→
 (x10=true→∀(x13:Int),x13=bits .or .i64 (made m a).1 (made n b).1→r=V.agg [.int .i64 (made x13 (Prod.snd (made m a))).1,.int .i64 (made x13 (Prod.snd (made m a))).2])∧
 (x10=false→∀(x16:Int),x16=bits .or .i64 (made m a).1 (made n b).1→r=V.agg [.int .i64 (made x16 (-1)).1,.int .i64 (made x16 (-1)).2])))))):=by kernel_rfl
theorem nl39_0 (xs ys:List V) (n i:Int) (Nx Ex Rt:List V→List Blk→Prop):wC Try.prog sp39 26 zB (zN Try.f39) noLs 0 (zP Try.f39 0).2 1009 (List.zip [0,1,12,13] [.list false xs,.list false ys,.int .i64 n,.int .i64 i]) (List.zip [] []) (endK ends39_0 Nx Ex Rt)=(
 ∀(x0:Bool),
 x0=decide (i<n)→
 (x0=true→0≤i∧i<↑(List.length xs)∧∃n3,getV xs i=V.int .i64 n3∧0≤i∧i<↑(List.length ys)∧∃n4,getV ys i=V.int .i64 n4∧∀(x5:Bool),x5=(n3 != n4)→(x5=true→Rt [V.gd true (V.bool false)] [])∧(x5=false→∀(x9:Int),x9=IntKind.wrap .i64 (i+1)→Nx [V.list false xs,V.list false ys,V.int .i64 n,V.int .i64 x9] []))∧
 (x0=false→Ex [] [])):=by kernel_rfl
theorem n39 (xs ys:List V) (r:V):wC Try.prog sp39 26 zB (zN Try.f39) ls39 0 (zC Try.f39) 1000 (zL [.list false xs,.list false ys] 0) [] (finK Try.prog none Try.f39.results.toList r)=(
 List.length xs≤9223372036854775807→
 ∀(x1:Int),
 x1=↑(List.length xs)→
 List.length ys≤9223372036854775807→
 ∀(x4:Int),
 x4=↑(List.length ys)→∀(x6:Bool),x6=(x1 != x4)→(x6=true→r=V.bool false)∧(x6=false→List.length xs≤9223372036854775807→∀(x11:Int),x11=↑(List.length xs)→Int.ofNat 0=0∧x11=↑(List.length xs)∧List.length xs=List.length ys∧List.length xs≤100000∧NLs xs∧NLs ys∧(uT xs ys=true→r=V.bool true)∧(uT xs ys=false→r=V.bool false))):=by kernel_rfl
theorem nl42_0 (xs ys:List V) (n i:Int) (Nx Ex Rt:List V→List Blk→Prop):wC Try.prog sp42 32 zB (zN Try.f42) noLs 0 (zP Try.f42 0).2 1009 (List.zip [1,2,15,16,17] [.list false ys,.fn 43 [],.list false xs,.int .i64 n,.int .i64 i]) (List.zip [] []) (endK ends42_0 Nx Ex Rt)=(
 ∀(x0:Bool),
 x0=decide (i<n)→
 (x0=true→
 0≤i∧
 i<↑(List.length xs)∧
 ∃n3 n4,
 getV xs i=V.agg [.int .i64 n3,.int .i64 n4]∧
 0≤i∧i<↑(List.length ys)∧∃n5 n6,getV ys i=V.agg [.int .i64 n5,.int .i64 n6]∧∀(x7:Bool),x7=!alikeK n3 n4 n5 n6→(x7=true→Rt [V.gd true (V.bool false)] [])∧(x7=false→∀(x11:Int),x11=IntKind.wrap .i64 (i+1)→Nx [V.list false ys,V.fn 43 [],V.list false xs,V.int .i64 n,V.int .i64 x11] []))∧
 (x0=false→Ex [] [])):=by kernel_rfl
theorem n42 (xs ys:List V) (r:V):wC Try.prog sp42 32 zB (zN Try.f42) ls42 0 (zC Try.f42) 1000 (zL [.list false xs,.list false ys,.fn 43 []] 0) [] (finK Try.prog none Try.f42.results.toList r)=(
 List.length xs≤9223372036854775807→
 ∀(x1:Int),
 x1=↑(List.length xs)→
 List.length ys≤9223372036854775807→
 ∀(x4:Int),
 x4=↑(List.length ys)→∀(x6:Bool),x6=(x1 != x4)→(x6=true→r=V.bool false)∧(x6=false→List.length xs≤9223372036854775807→∀(x11:Int),x11=↑(List.length xs)→Int.ofNat 0=0∧x11=↑(List.length xs)∧List.length xs=List.length ys∧List.length xs≤100000∧KLs xs∧KLs ys∧(uW xs ys=true→r=V.bool true)∧(uW xs ys=false→r=V.bool false))):=by kernel_rfl
theorem n29 (f g:Nat→Int×Int) (fr gr:Bool) (ys zs ts us:List V) (rm sm:Int) (r:V):wC Try.prog sp29 42 zB (zN Try.f29) noLs 0 (zC Try.f29) 1000 (zL [.agg [.agg (arrF 16 f),.bool fr,.list false ys,.int .i64 rm,.list false ts],.agg [.agg (arrF 16 g),.bool gr,.list false zs,.int .i64 sm,.list false us]] 0) [] (finK Try.prog none Try.f29.results.toList r)=(
 ∀(x0:Bool),
 x0=(fr != gr)→
 (x0=true→r=V.bool false)∧
 (x0=false→
 ∀(x4:Bool),
 x4=(rm != sm)→
 (x4=true→r=V.bool false)∧
 (x4=false→
 NLs ts∧
 NLs us∧
 List.length ts≤100000∧
 ∀(x8:Bool),
 x8=!uT ts us→
 (x8=true→r=V.bool false)∧
 (x8=false→
 (fr=true→
 KLs ys∧
 KLs zs∧
 List.length ys≤100000∧
 ∀(x13:Bool),
 x13=!uW ys zs→
 (x13=true→r=V.bool false)∧
 (x13=false→
 ∀(ys17:List V),
 ys17=
 (arrF 16 f)→
 ∀(ys19:List V),
 ys19=
 (arrF 16 g)→
 KLs ys17∧KLs ys19∧List.length ys17≤100000∧r=V.bool (uW ys17 ys19)))∧
 (fr=false→
 (false=true→r=V.bool false)∧
 (false=false→
 ∀(ys24:List V),
 ys24=
 (arrF 16 f)→
 ∀(ys26:List V),
 ys26=
 (arrF 16 g)→
 KLs ys24∧KLs ys26∧List.length ys24≤100000∧r=V.bool (uW ys24 ys26))))))):=by kernel_rfl
theorem nl28_0 (f g:Nat→Int×Int) (fr gr:Bool) (ys zs ts us:List V) (rm sm:Int) (h:Nat→Int×Int) (hr:Bool) (ws hs:List V) (k:Nat) (hm:Int) (i:Int) (Nx Ex Rt:List V→List Blk→Prop):wC Try.prog sp28 87 (hintOf [(7004,52),(7008,52),(7012,53),(14015,53)]) (zN Try.f28) noLs 0 (zP Try.f28 0).2 1035 (List.zip [2,3,4,6,38] [.ptr 1000 0 [],.ptr 1001 0 [],.ptr 1002 0 [],.ptr 1032 0 [],.int .i64 i]) (List.zip [1000,1001,1002,1032,1031] [⟨none,false,.agg [.agg (arrF 16 f),.bool fr,.list false ys,.int .i64 rm,.list false ts]⟩,⟨none,false,.agg [.agg (arrF 16 g),.bool gr,.list false zs,.int .i64 sm,.list false us]⟩,⟨none,false,zS⟩,⟨none,false,.agg [.agg (arrF 16 h),.bool hr,.sl 1031 k,.int .i64 hm,.list false hs]⟩,⟨some 52,false,.agg ws⟩]) (endK ends28_0 Nx Ex Rt)=(
 ∀(x0:Bool),
 x0=decide (i<16)→
 (x0=true→
 0≤i∧
 i<↑16∧
 ∃n3 n4,
 subQ
 (V.agg
 [.agg
 (arrF 16 f),
 .bool fr,.list false ys,.int .i64 rm,.list false ts])
 [0,Int.toNat i]=
 some (V.agg [.int .i64 n3,.int .i64 n4])∧
 offQ
 (V.agg
 [.agg
 (arrF 16 f),
 .bool fr,.list false ys,.int .i64 rm,.list false ts])
 [0,Int.toNat i]=
 0+Int.toNat i*2∧
 0≤i∧
 i<↑16∧
 ∃n5 n6,
 subQ
 (V.agg
 [.agg
 (arrF 16 g),
 .bool gr,.list false zs,.int .i64 sm,.list false us])
 [0,Int.toNat i]=
 some (V.agg [.int .i64 n5,.int .i64 n6])∧
 offQ
 (V.agg
 [.agg
 (arrF 16 g),
 .bool gr,.list false zs,.int .i64 sm,.list false us])
 [0,Int.toNat i]=
 0+Int.toNat i*2∧
 0≤i∧
 i<↑16∧
 offQ
 (V.agg
 (arrF 16 h))
 [Int.toNat i]+
 0=
 0+Int.toNat i*2∧
 (∃u7,
 subQ
 (V.agg
 (arrF 16 h))
 [Int.toNat i]=
 some u7∧
 V.sz (V.agg [.int .i64 (uM n3 n4 n5 n6).1,.int .i64 (uM n3 n4 n5 n6).2])=V.sz u7)∧
 ∃f8:Nat→Int×Int,
 V.agg
 (arrF 16 f8)=
 updQ (V.agg [.int .i64 (uM n3 n4 n5 n6).1,.int .i64 (uM n3 n4 n5 n6).2])
 (V.agg
 (arrF 16 h))
 [Int.toNat i]∧
 ∀(x9:Int),
 x9=IntKind.wrap .i64 (i+1)→
 (∀(v11:V),List.Mem v11 ws→V.ids v11=[])∧
 Nx [V.ptr 1000 0 [],V.ptr 1001 0 [],V.ptr 1002 0 [],V.ptr 1032 0 [],V.int .i64 x9]
 [⟨none,false,V.agg
 [.agg
 (arrF 16 f),
 .bool fr,.list false ys,.int .i64 rm,.list false ts]⟩,
 ⟨none,false,V.agg
 [.agg
 (arrF 16 g),
 .bool gr,.list false zs,.int .i64 sm,.list false us]⟩,
 ⟨none,false,V.agg
 [.agg
 (arrF 16 zF),
 .bool false,.nils,.int .i64 0,.nils]⟩,
 ⟨none,false,V.agg
 [.agg
 (arrF 16 f8),
 .bool hr,.sl 1031 k,.int .i64 hm,.list false hs]⟩,
 ⟨some 52,false,V.agg ws⟩])∧
 (x0=false→
 (∀(v14:V),List.Mem v14 ws→V.ids v14=[])∧
 Ex [V.ptr 1000 0 [],V.ptr 1001 0 [],V.ptr 1002 0 [],V.ptr 1032 0 []]
 [⟨none,false,V.agg
 [.agg
 (arrF 16 f),
 .bool fr,.list false ys,.int .i64 rm,.list false ts]⟩,
 ⟨none,false,V.agg
 [.agg
 (arrF 16 g),
 .bool gr,.list false zs,.int .i64 sm,.list false us]⟩,
 ⟨none,false,V.agg
 [.agg
 (arrF 16 zF),
 .bool false,.nils,.int .i64 0,.nils]⟩,
 ⟨none,false,V.agg
 [.agg
 (arrF 16 h),
 .bool hr,.sl 1031 k,.int .i64 hm,.list false hs]⟩,
 ⟨some 52,false,V.agg ws⟩])):=by kernel_rfl
theorem nl28_1 (f g:Nat→Int×Int) (fr gr:Bool) (ys zs ts us:List V) (rm sm:Int) (h:Nat→Int×Int) (hr:Bool) (ws hs:List V) (k:Nat) (hm:Int) (n i:Int) (Nx Ex Rt:List V→List Blk→Prop):wC Try.prog sp28 87 (hintOf [(7004,52),(7008,52),(7012,53),(14015,53)]) (zN Try.f28) noLs 2 (zP Try.f28 1).2 1042 (List.zip [2,3,4,6,60,61] [.ptr 1000 0 [],.ptr 1001 0 [],.ptr 1002 0 [],.ptr 1032 0 [],.int .i64 n,.int .i64 i]) (List.zip [1000,1001,1002,1032,1031] [⟨none,false,.agg [.agg (arrF 16 f),.bool fr,.list false ys,.int .i64 rm,.list false ts]⟩,⟨none,false,.agg [.agg (arrF 16 g),.bool gr,.list false zs,.int .i64 sm,.list false us]⟩,⟨none,false,zS⟩,⟨none,false,.agg [.agg (arrF 16 h),.bool hr,.sl 1031 k,.int .i64 hm,.list false hs]⟩,⟨some 52,false,.agg ws⟩]) (endK ends28_1 Nx Ex Rt)=(
 ∀(x0:Bool),
 x0=decide (i<n)→
 (x0=true→
 0≤i∧
 i<↑(List.length ys)∧
 ∃n3 n4,
 getV ys i=V.agg [.int .i64 n3,.int .i64 n4]∧
 0≤i∧
 i<↑(List.length zs)∧
 ∃n5 n6,
 getV zs i=V.agg [.int .i64 n5,.int .i64 n6]∧
 k=List.length ws∧
 0≤i∧
 i<↑k∧
 some 2=some 2∧
 k=List.length ws∧
 [Int.toNat i]≠[]∧
 offQ (V.agg ws) [Int.toNat i]=Int.toNat i*2∧
 (∃u7,subQ (V.agg ws) [Int.toNat i]=some u7∧V.sz (V.agg [.int .i64 (uM n3 n4 n5 n6).1,.int .i64 (uM n3 n4 n5 n6).2])=V.sz u7∧V.sz (V.agg [.int .i64 (uM n3 n4 n5 n6).1,.int .i64 (uM n3 n4 n5 n6).2])=V.sz u7)∧
 ∃rows'8,
 V.agg rows'8=updQ (V.agg [.int .i64 (uM n3 n4 n5 n6).1,.int .i64 (uM n3 n4 n5 n6).2]) (V.agg ws) [Int.toNat i]∧
 ∀(x9:Int),
 x9=IntKind.wrap .i64 (i+1)→
 (∀(v11:V),List.Mem v11 rows'8→V.ids v11=[])∧
 Nx [V.ptr 1000 0 [],V.ptr 1001 0 [],V.ptr 1002 0 [],V.ptr 1032 0 [],V.int .i64 n,V.int .i64 x9]
 [⟨none,false,V.agg
 [.agg
 (arrF 16 f),
 .bool fr,.list false ys,.int .i64 rm,.list false ts]⟩,
 ⟨none,false,V.agg
 [.agg
 (arrF 16 g),
 .bool gr,.list false zs,.int .i64 sm,.list false us]⟩,
 ⟨none,false,V.agg
 [.agg
 (arrF 16 zF),
 .bool false,.nils,.int .i64 0,.nils]⟩,
 ⟨none,false,V.agg
 [.agg
 (arrF 16 h),
 .bool hr,.sl 1031 k,.int .i64 hm,.list false hs]⟩,
 ⟨some 52,false,V.agg rows'8⟩])∧
 (x0=false→
 (∀(v14:V),List.Mem v14 ws→V.ids v14=[])∧
 Ex [V.ptr 1000 0 [],V.ptr 1001 0 [],V.ptr 1002 0 [],V.ptr 1032 0 []]
 [⟨none,false,V.agg
 [.agg
 (arrF 16 f),
 .bool fr,.list false ys,.int .i64 rm,.list false ts]⟩,
 ⟨none,false,V.agg
 [.agg
 (arrF 16 g),
 .bool gr,.list false zs,.int .i64 sm,.list false us]⟩,
 ⟨none,false,V.agg
 [.agg
 (arrF 16 zF),
 .bool false,.nils,.int .i64 0,.nils]⟩,
 ⟨none,false,V.agg
 [.agg
 (arrF 16 h),
 .bool hr,.sl 1031 k,.int .i64 hm,.list false hs]⟩,
 ⟨some 52,false,V.agg ws⟩])):=by kernel_rfl
theorem nl28_2 (f g:Nat→Int×Int) (fr gr:Bool) (ys zs ts us:List V) (rm sm:Int) (h:Nat→Int×Int) (hr:Bool) (ws hs:List V) (k:Nat) (hm:Int) (n i:Int) (Nx Ex Rt:List V→List Blk→Prop):wC Try.prog sp28 87 (hintOf [(7004,52),(7008,52),(7012,53),(14015,53)]) (zN Try.f28) noLs 2 (zP Try.f28 1).2 1042 (List.zip [2,3,4,6,60,61] [.ptr 1000 0 [],.ptr 1001 0 [],.ptr 1002 0 [],.ptr 1032 0 [],.int .i64 n,.int .i64 i]) (List.zip [1000,1001,1002,1032,1031] [⟨none,false,.agg [.agg (arrF 16 f),.bool fr,.list false ys,.int .i64 rm,.list false ts]⟩,⟨none,false,.agg [.agg (arrF 16 g),.bool gr,.list false zs,.int .i64 sm,.list false us]⟩,⟨none,false,zS⟩,⟨none,false,.agg [.agg (arrF 16 h),.bool hr,.nils,.int .i64 hm,.list false hs]⟩,⟨some 52,false,.agg ws⟩]) (endK ends28_2 Nx Ex Rt)=(
 ∀(x0:Bool),
 x0=decide (i<n)→
 (x0=true→0≤i∧i<↑(List.length ys)∧∃n3 n4,getV ys i=V.agg [.int .i64 n3,.int .i64 n4]∧0≤i∧i<↑(List.length zs)∧∃n5 n6,getV zs i=V.agg [.int .i64 n5,.int .i64 n6]∧False)∧
 (x0=false→
 (∀(v8:V),List.Mem v8 ws→V.ids v8=[])∧
 Ex [V.ptr 1000 0 [],V.ptr 1001 0 [],V.ptr 1002 0 [],V.ptr 1032 0 []]
 [⟨none,false,V.agg
 [.agg
 (arrF 16 f),
 .bool fr,.list false ys,.int .i64 rm,.list false ts]⟩,
 ⟨none,false,V.agg
 [.agg
 (arrF 16 g),
 .bool gr,.list false zs,.int .i64 sm,.list false us]⟩,
 ⟨none,false,V.agg
 [.agg
 (arrF 16 zF),
 .bool false,.nils,.int .i64 0,.nils]⟩,
 ⟨none,false,V.agg
 [.agg
 (arrF 16 h),
 .bool hr,.nils,.int .i64 hm,.list false hs]⟩,
 ⟨some 52,false,V.agg ws⟩])):=by kernel_rfl
theorem n28 (f g:Nat→Int×Int) (fr gr:Bool) (ys zs ts us:List V) (rm sm:Int) (r:V):wC Try.prog sp28 87 (hintOf [(7004,52),(7008,52),(7012,53),(14015,53)]) (zN Try.f28) ls28 0 (zC Try.f28) 1000 (zL [.agg [.agg (arrF 16 f),.bool fr,.list false ys,.int .i64 rm,.list false ts],.agg [.agg (arrF 16 g),.bool gr,.list false zs,.int .i64 sm,.list false us]] 0) [] (finK Try.prog none Try.f28.results.toList r)=(
 ∀(x0:Bool),
 x0=(fr != gr)→
 (x0=true→
 r=
 V.tup
 [.agg
 [.agg
 (arrF 16 zF),
 .bool false,.list false [],.int .i64 0,.list false []],
 .bool false])∧
 (x0=false→
 (fr=true→
 List.length ys≤9223372036854775807→
 ∀(x6:Int),
 x6=↑(List.length ys)→
 List.length zs≤9223372036854775807→
 ∀(x9:Int),
 x9=↑(List.length zs)→
 ∀(x11:Bool),
 x11=(x6 != x9)→
 (x11=true→
 r=
 V.tup
 [.agg
 [.agg
 (arrF 16 zF),
 .bool false,.list false [],.int .i64 0,.list false []],
 .bool false])∧
 (x11=false→
 NLs ts∧
 NLs us∧
 List.length ts≤100000∧
 ∀(x15:Bool),
 x15=!uT ts us→
 (x15=true→
 r=
 V.tup
 [.agg
 [.agg
 (arrF 16 zF),
 .bool false,.list false [],.int .i64 0,.list false []],
 .bool false])∧
 (x15=false→
 SOk
 (arrF 16 f)
 ys ts∧
 ∀(zs19:List V),
 zs19=ys→
 (∀(v21:V),List.Mem v21 zs19→V.ids v21=[])∧
 ∃f23 g24,
 (arrF 16 f)=
 (arrF 16 f23)∧
 (arrF 16 g)=
 (arrF 16 g24)∧
 (∃h25:Nat→Int×Int,
 (arrF 16 f)=
 (arrF 16 h25))∧
 Int.ofNat 0=0∧
 V.agg
 [.agg
 (arrF 16 zF),
 .bool false,.nils,.int .i64 0,.nils]=
 V.agg
 [.agg
 (arrF 16 zF),
 .bool false,.nils,.int .i64 0,.nils]∧
 SOk
 (arrF 16 f)
 ys ts∧
 KLs zs∧
 KLs zs19∧
 ∀(x26:Bool),
 x26=!fr→
 (x26=true→
 (∀(v29:V),List.Mem v29 zs19→V.ids v29=[])∧
 ∃f31 g32 h33,
 (arrF 16 f23)=
 (arrF 16 f31)∧
 (arrF 16 g24)=
 (arrF 16 g32)∧
 (arrF 16 (tD f23 g24))=
 (arrF 16 h33)∧
 Int.ofNat 0=0∧
 V.agg
 [.agg
 (arrF 16 zF),
 .bool false,.nils,.int .i64 0,.nils]=
 V.agg
 [.agg
 (arrF 16 zF),
 .bool false,.nils,.int .i64 0,.nils]∧
 SOk
 (arrF 16 f23)
 ys ts∧
 KLs zs∧
 KLs zs19∧
 Int.ofNat 0=0∧
 ∀(z34:Int),
 (z34=if sm<rm then sm else rm)→
 r=
 V.tup
 [.agg
 [.agg
 (arrF 16 h33),
 .bool fr,.list false [],.int .i64 z34,.list false ts],
 .bool true])∧
 (x26=false→
 List.length zs19=List.length zs19∧
 (List.length zs19≤9223372036854775807→
 ∀(x38:Int),
 x38=↑(List.length zs19)→
 (∀(v40:V),List.Mem v40 zs19→V.ids v40=[])∧
 ∃f42 g43 h44,
 (arrF 16 f23)=
 (arrF 16 f42)∧
 (arrF 16 g24)=
 (arrF 16 g43)∧
 (arrF 16 (tD f23 g24))=
 (arrF 16 h44)∧
 Int.ofNat 0=0∧
 V.agg
 [.agg
 (arrF 16 zF),
 .bool false,.nils,.int .i64 0,.nils]=
 V.agg
 [.agg
 (arrF 16 zF),
 .bool false,.nils,.int .i64 0,.nils]∧
 SOk
 (arrF 16 f23)
 ys ts∧
 KLs zs∧
 KLs zs19∧
 zs19=ys∧
 List.length zs19=List.length ys∧
 x38=↑(List.length ys)∧
 List.length ys=List.length zs∧
 ∀(z45:Int),
 (z45=if sm<rm then sm else rm)→
 List.length zs19=List.length (uC ys zs)∧
 r=
 V.tup
 [.agg
 [.agg
 (arrF 16 h44),
 .bool fr,.list false (uC ys zs),.int .i64 z45,.list false ts],
 .bool true])))))∧
 (fr=false→
 (false=true→
 r=
 V.tup
 [.agg
 [.agg
 (arrF 16 zF),
 .bool false,.list false [],.int .i64 0,.list false []],
 .bool false])∧
 (false=false→
 NLs ts∧
 NLs us∧
 List.length ts≤100000∧
 ∀(x50:Bool),
 x50=!uT ts us→
 (x50=true→
 r=
 V.tup
 [.agg
 [.agg
 (arrF 16 zF),
 .bool false,.list false [],.int .i64 0,.list false []],
 .bool false])∧
 (x50=false→
 SOk
 (arrF 16 f)
 ys ts∧
 ∀(zs54:List V),
 zs54=ys→
 (∀(v56:V),List.Mem v56 zs54→V.ids v56=[])∧
 ∃f58 g59,
 (arrF 16 f)=
 (arrF 16 f58)∧
 (arrF 16 g)=
 (arrF 16 g59)∧
 (∃h60:Nat→Int×Int,
 (arrF 16 f)=
 (arrF 16 h60))∧
 Int.ofNat 0=0∧
 V.agg
 [.agg
 (arrF 16 zF),
 .bool false,.nils,.int .i64 0,.nils]=
 V.agg
 [.agg
 (arrF 16 zF),
 .bool false,.nils,.int .i64 0,.nils]∧
 SOk
 (arrF 16 f)
 ys ts∧
 KLs zs∧
 KLs zs54∧
 ∀(x61:Bool),
 x61=!fr→
 (x61=true→
 (∀(v64:V),List.Mem v64 zs54→V.ids v64=[])∧
 ∃f66 g67 h68,
 (arrF 16 f58)=
 (arrF 16 f66)∧
 (arrF 16 g59)=
 (arrF 16 g67)∧
 (arrF 16 (tD f58 g59))=
 (arrF 16 h68)∧
 Int.ofNat 0=0∧
 V.agg
 [.agg
 (arrF 16 zF),
 .bool false,.nils,.int .i64 0,.nils]=
 V.agg
 [.agg
 (arrF 16 zF),
 .bool false,.nils,.int .i64 0,.nils]∧
 SOk
 (arrF 16 f58)
 ys ts∧
 KLs zs∧
 KLs zs54∧
 Int.ofNat 0=0∧
 ∀(z69:Int),
 (z69=if sm<rm then sm else rm)→
 r=
 V.tup
 [.agg
 [.agg
 (arrF 16 h68),
 .bool fr,.list false [],.int .i64 z69,.list false ts],
 .bool true])∧
 (x61=false→
 List.length zs54=List.length zs54∧
 (List.length zs54≤9223372036854775807→
 ∀(x73:Int),
 x73=↑(List.length zs54)→
 (∀(v75:V),List.Mem v75 zs54→V.ids v75=[])∧
 ∃f77 g78 h79,
 (arrF 16 f58)=
 (arrF 16 f77)∧
 (arrF 16 g59)=
 (arrF 16 g78)∧
 (arrF 16 (tD f58 g59))=
 (arrF 16 h79)∧
 Int.ofNat 0=0∧
 V.agg
 [.agg
 (arrF 16 zF),
 .bool false,.nils,.int .i64 0,.nils]=
 V.agg
 [.agg
 (arrF 16 zF),
 .bool false,.nils,.int .i64 0,.nils]∧
 SOk
 (arrF 16 f58)
 ys ts∧
 KLs zs∧
 KLs zs54∧
 zs54=ys∧
 List.length zs54=List.length ys∧
 x73=↑(List.length ys)∧
 List.length ys=List.length zs∧
 ∀(z80:Int),
 (z80=if sm<rm then sm else rm)→
 List.length zs54=List.length (uC ys zs)∧
 r=
 V.tup
 [.agg
 [.agg
 (arrF 16 h79),
 .bool fr,.list false (uC ys zs),.int .i64 z80,.list false ts],
 .bool true]))))))):=by kernel_rfl
end GoL
