/- A part of the proof: a logic proved sound over the model; contracts; plain laws. -/
import Derived.Test.YteeaefidpkifbaaGE
import Derived.Test.YteeaefidpkifbaaR6D
set_option linter.all false
open Go Go.Proofs
namespace GoL
set_option maxRecDepth 100000
theorem n96 (y:Int) (r:V):wC Try.prog sp96 51 zB (zO []) noLs 0 (zC Try.f96) 1000 (zL [.int .u64 1,.int .u64 y] 0) [] (finK Try.prog none Try.f96.results.toList r)=(
 ∀(x0:Int),
 x0=bits .and .u64 1 4294967295→
 Int.ofNat 0≤32∧
 (True→
 ∀(x3:Int),
 x3=Int.fdiv 1 (2 ^ 32)→
 ∀(x5:Int),
 x5=bits .and .u64 y 4294967295→
 Int.ofNat 0≤32∧
 (True→
 ∀(x8:Int),
 x8=Int.fdiv y (2 ^ 32)→
 ∀(x10:Int),
 x10=IntKind.wrap .u64 (x0*x5)→
 ∀(x12:Int),
 x12=IntKind.wrap .u64 (x3*x5)→
 Int.ofNat 0≤32∧
 (True→
 ∀(x15:Int),
 x15=Int.fdiv x10 (2 ^ 32)→
 ∀(x17:Int),
 x17=IntKind.wrap .u64 (x12+x15)→
 ∀(x19:Int),
 x19=bits .and .u64 x17 4294967295→
 Int.ofNat 0≤32∧
 (True→
 ∀(x22:Int),
 x22=Int.fdiv x17 (2 ^ 32)→
 ∀(x24:Int),
 x24=IntKind.wrap .u64 (x0*x8)→
 ∀(x26:Int),
 x26=IntKind.wrap .u64 (x19+x24)→
 ∀(x28:Int),
 x28=IntKind.wrap .u64 (x3*x8)→
 ∀(x30:Int),x30=IntKind.wrap .u64 (x28+x22)→Int.ofNat 0≤32∧(True→∀(x33:Int),x33=Int.fdiv x26 (2 ^ 32)→∀(x35:Int),x35=IntKind.wrap .u64 (x30+x33)→∀(x37:Int),x37=IntKind.wrap .u64 (1*y)→r=V.tup [.int .u64 x35,.int .u64 x37])))))):=by kernel_rfl
theorem n89 (y:Int) (r:V):wC Try.prog sp89 30 zB (zO []) noLs 0 (zC Try.f89) 1000 (zL [.int .u64 1,.int .u64 y] 0) [] (finK Try.prog none Try.f89.results.toList r)=(
 Int.ofNat 1=1∧0≤y∧y≤100∧r=V.tup [.int .u64 0,.int .u64 y]):=by kernel_rfl
theorem n76 (n:Int) (r:V):wC Try.prog sp76 48 zB (zN Try.f76) ls76 0 (zC Try.f76) 1000 (zL [.list false [.agg [.int .i64 0,.int .i64 (-1)]],.int .i64 n] 0) [] (finK Try.prog none Try.f76.results.toList r)=(
 ∀(x0:Bool),
 x0=decide (n<0)→
 (x0=true→
 False∧
 (True→
 False∧
 (True→
 1≤9223372036854775807→
 ∀(x6:Int),
 x6=↑1→
 true=true∧
 (True→
 ∀(x9:Int),
 x9=IntKind.wrap .u64 x6→
 true=true∧
 (True→
 ∀(x12:Int),
 x12=IntKind.wrap .u64 n→
 x9=1∧
 0≤x12∧
 x12≤100∧
 ∀(x14:Bool),
 x14=decide (0>0)→
 (x14=true→
 False∧
 (True→
 False∧
 (True→
 true=true∧
 (True→
 ∀(x20:Int),
 x20=IntKind.wrap .i64 x12→
 (0≤x20∧x20≤x20∧x20≤↑9223372036854775807∧↑16*x20≤281474976710656∧true=true)∧
 (True→
 (Int.toNat x20=List.length (List.replicate (Int.toNat x20) (V.agg [.int .i64 0,.int .i64 0]))∧
 52=52∧
 some 2=some 2∧
 True∧(∀(v23:V),List.Mem v23 [V.agg [.int .i64 0,.int .i64 (-1)]]→V.sz v23=2)∧(∀(j25:Nat),V.list false [.agg [.int .i64 0,.int .i64 (-1)]]≠V.sl 1026 j25)∧∀(s72:List UInt8),V.list false [.agg [.int .i64 0,.int .i64 (-1)]]≠V.str s72)∧
 (True→∀(x28:Int),x28=↑(min (List.length [V.agg [.int .i64 0,.int .i64 (-1)]]) (List.length (List.replicate (Int.toNat x20) (V.agg [.int .i64 0,.int .i64 0]))))→False))))))∧
 (x14=false→
 ∀(x31:Bool),
 x31=decide (x12>9223372036854775807)→
 (x31=true→
 False∧
 (True→
 False∧
 (True→
 true=true∧
 (True→
 ∀(x37:Int),
 x37=IntKind.wrap .i64 x12→
 (0≤x37∧x37≤x37∧x37≤↑9223372036854775807∧↑16*x37≤281474976710656∧true=true)∧
 (True→
 (Int.toNat x37=List.length (List.replicate (Int.toNat x37) (V.agg [.int .i64 0,.int .i64 0]))∧
 52=52∧
 some 2=some 2∧
 True∧(∀(v40:V),List.Mem v40 [V.agg [.int .i64 0,.int .i64 (-1)]]→V.sz v40=2)∧(∀(j42:Nat),V.list false [.agg [.int .i64 0,.int .i64 (-1)]]≠V.sl 1026 j42)∧∀(s56:List UInt8),V.list false [.agg [.int .i64 0,.int .i64 (-1)]]≠V.str s56)∧
 (True→∀(x45:Int),x45=↑(min (List.length [V.agg [.int .i64 0,.int .i64 (-1)]]) (List.length (List.replicate (Int.toNat x37) (V.agg [.int .i64 0,.int .i64 0]))))→False))))))∧
 (x31=false→
 true=true∧
 (True→
 ∀(x49:Int),
 x49=IntKind.wrap .i64 x12→
 (0≤x49∧x49≤x49∧x49≤↑9223372036854775807∧↑16*x49≤281474976710656∧true=true)∧
 (True→
 (Int.toNat x49=List.length (List.replicate (Int.toNat x49) (V.agg [.int .i64 0,.int .i64 0]))∧
 52=52∧
 some 2=some 2∧
 True∧(∀(v52:V),List.Mem v52 [V.agg [.int .i64 0,.int .i64 (-1)]]→V.sz v52=2)∧(∀(j54:Nat),V.list false [.agg [.int .i64 0,.int .i64 (-1)]]≠V.sl 1024 j54)∧∀(s69:List UInt8),V.list false [.agg [.int .i64 0,.int .i64 (-1)]]≠V.str s69)∧
 (True→∀(x57:Int),x57=↑(min (List.length [V.agg [.int .i64 0,.int .i64 (-1)]]) (List.length (List.replicate (Int.toNat x49) (V.agg [.int .i64 0,.int .i64 0]))))→False))))))))))∧
 (x0=false→
 1≤9223372036854775807→
 ∀(x61:Int),
 x61=↑1→
 true=true∧
 (True→
 ∀(x64:Int),
 x64=IntKind.wrap .u64 x61→
 true=true∧
 (True→
 ∀(x67:Int),
 x67=IntKind.wrap .u64 n→
 x64=1∧
 0≤x67∧
 x67≤100∧
 ∀(x69:Bool),
 x69=decide (0>0)→
 (x69=true→
 False∧
 (True→
 False∧
 (True→
 true=true∧
 (True→
 ∀(x75:Int),
 x75=IntKind.wrap .i64 x67→
 (0≤x75∧x75≤x75∧x75≤↑9223372036854775807∧↑16*x75≤281474976710656∧true=true)∧
 (True→
 (Int.toNat x75=List.length (List.replicate (Int.toNat x75) (V.agg [.int .i64 0,.int .i64 0]))∧
 52=52∧
 some 2=some 2∧True∧(∀(v78:V),List.Mem v78 [V.agg [.int .i64 0,.int .i64 (-1)]]→V.sz v78=2)∧(∀(j80:Nat),V.list false [.agg [.int .i64 0,.int .i64 (-1)]]≠V.sl 1024 j80)∧∀(s98:List UInt8),V.list false [.agg [.int .i64 0,.int .i64 (-1)]]≠V.str s98)∧
 (True→∀(x83:Int),x83=↑(min (List.length [V.agg [.int .i64 0,.int .i64 (-1)]]) (List.length (List.replicate (Int.toNat x75) (V.agg [.int .i64 0,.int .i64 0]))))→False))))))∧
 (x69=false→
 ∀(x86:Bool),
 x86=decide (x67>9223372036854775807)→
 (x86=true→
 False∧
 (True→
 False∧
 (True→
 true=true∧
 (True→
 ∀(x92:Int),
 x92=IntKind.wrap .i64 x67→
 (0≤x92∧x92≤x92∧x92≤↑9223372036854775807∧↑16*x92≤281474976710656∧true=true)∧
 (True→
 (Int.toNat x92=List.length (List.replicate (Int.toNat x92) (V.agg [.int .i64 0,.int .i64 0]))∧
 52=52∧
 some 2=some 2∧
 True∧(∀(v95:V),List.Mem v95 [V.agg [.int .i64 0,.int .i64 (-1)]]→V.sz v95=2)∧(∀(j97:Nat),V.list false [.agg [.int .i64 0,.int .i64 (-1)]]≠V.sl 1024 j97)∧∀(s9098:List UInt8),V.list false [.agg [.int .i64 0,.int .i64 (-1)]]≠V.str s9098)∧
 (True→∀(x100:Int),x100=↑(min (List.length [V.agg [.int .i64 0,.int .i64 (-1)]]) (List.length (List.replicate (Int.toNat x92) (V.agg [.int .i64 0,.int .i64 0]))))→False))))))∧
 (x86=false→
 true=true∧
 (True→
 ∀(x104:Int),
 x104=IntKind.wrap .i64 x67→
 (0≤x104∧x104≤x104∧x104≤↑9223372036854775807∧↑16*x104≤281474976710656∧true=true)∧
 (True→
 (Int.toNat x104=List.length (List.replicate (Int.toNat x104) (V.agg [.int .i64 0,.int .i64 0]))∧
 52=52∧
 some 2=some 2∧
 True∧(∀(v107:V),List.Mem v107 [V.agg [.int .i64 0,.int .i64 (-1)]]→V.sz v107=2)∧(∀(j109:Nat),V.list false [.agg [.int .i64 0,.int .i64 (-1)]]≠V.sl 1022 j109)∧∀(s9110:List UInt8),V.list false [.agg [.int .i64 0,.int .i64 (-1)]]≠V.str s9110)∧
 (True→
 ∀(x112:Int),
 x112=↑(min (List.length [V.agg [.int .i64 0,.int .i64 (-1)]]) (List.length (List.replicate (Int.toNat x104) (V.agg [.int .i64 0,.int .i64 0]))))→
 (∀(v114:V),
 List.Mem v114
 (List.take (List.length (List.replicate (Int.toNat x104) (V.agg [.int .i64 0,.int .i64 0]))) [V.agg [.int .i64 0,.int .i64 (-1)]]++
 List.drop (List.length [V.agg [.int .i64 0,.int .i64 (-1)]]) (List.replicate (Int.toNat x104) (V.agg [.int .i64 0,.int .i64 0])))→
 V.ids v114=[])∧
 ∃n9116,
 n9116≤100∧
 Int.toNat x104=n9116∧
 List.take (List.length (List.replicate (Int.toNat x104) (V.agg [.int .i64 0,.int .i64 0]))) [V.agg [.int .i64 0,.int .i64 (-1)]]++
 List.drop (List.length [V.agg [.int .i64 0,.int .i64 (-1)]]) (List.replicate (Int.toNat x104) (V.agg [.int .i64 0,.int .i64 0]))=
 fil n9116 (min 1 n9116)∧
 x112=↑(min 1 n9116)∧n9116=List.length (fil n9116 n9116)∧r=V.list false (fil n9116 n9116)))))))))):=by kernel_rfl
theorem nl76_0 (len:Nat) (i:Int) (rows:List V) (Nx Ex Rt:List V→List Blk→Prop):wC Try.prog sp76 48 zB (zN Try.f76) noLs 0 (zP Try.f76 0).2 1028 (List.zip [7,8] [.sl 1022 len,.int .i64 i]) (List.zip [1022] [⟨some 52,false,.agg rows⟩]) (endK ends76_0 Nx Ex Rt)=(
 len=List.length rows∧
 (List.length rows≤9223372036854775807→
 ∀(x1:Int),
 x1=↑(List.length rows)→
 ∀(x3:Bool),
 x3=decide (i<x1)→
 (x3=true→
 (len=List.length rows∧52=52∧(none:Option V)=none∧True∧True∧0≤i∧i<↑len∧i≤Int.ofNat len∧Int.ofNat len≤↑len∧some 2=some 2)∧
 (len=List.length rows∧52=52∧(none:Option V)=none∧True∧True∧0≤Int.ofNat 0∧Int.ofNat 0<↑len∧Int.ofNat 0≤i∧i≤↑len∧some 2=some 2)∧
 (1022=1022∧len=List.length rows∧len=len∧52=52∧rows≠[]∧Int.toNat i*2=Int.toNat i*2∧Int.toNat (Int.ofNat 0)*2=Int.toNat (Int.ofNat 0)*2∧Int.toNat i+(Int.toNat (Int.ofNat len)-Int.toNat i)≤List.length rows∧Int.toNat (Int.ofNat 0)+(Int.toNat i-Int.toNat (Int.ofNat 0))≤List.length rows∧some 2=some 2)∧
 ∀(x6:Int),
 x6=↑(min (Int.toNat i-Int.toNat (Int.ofNat 0)) (Int.toNat (Int.ofNat len)-Int.toNat i))→
 ∀(x8:Int),
 x8=IntKind.wrap .i64 (i+x6)→
 (∀(v10:V),List.Mem v10 (List.take (Int.toNat i) rows++List.take (min (Int.toNat i-Int.toNat (Int.ofNat 0)) (Int.toNat (Int.ofNat len)-Int.toNat i)) rows++List.drop (Int.toNat i+min (Int.toNat i-Int.toNat (Int.ofNat 0)) (Int.toNat (Int.ofNat len)-Int.toNat i)) rows)→V.ids v10=[])∧
 Nx [V.sl 1022 len,V.int .i64 x8] [⟨some 52,false,V.agg (List.take (Int.toNat i) rows++List.take (min (Int.toNat i-Int.toNat (Int.ofNat 0)) (Int.toNat (Int.ofNat len)-Int.toNat i)) rows++List.drop (Int.toNat i+min (Int.toNat i-Int.toNat (Int.ofNat 0)) (Int.toNat (Int.ofNat len)-Int.toNat i)) rows)⟩])∧
 (x3=false→(∀(v13:V),List.Mem v13 rows→V.ids v13=[])∧Ex [V.sl 1022 len] [⟨some 52,false,V.agg rows⟩]))):=by kernel_rfl
end GoL
