/- A part of the proof: a logic proved sound over the model; contracts; plain laws. -/
import Derived.Test.YteeaefidpkifbaaG1D
set_option linter.all false
open Go Go.Proofs
namespace GoL
set_option maxRecDepth 100000
theorem n62 (m:Int) (r:V):wC Try.prog sp62 5 zB (zO []) noLs 0 (zC Try.f62) 1000 (zL [.int .i64 m] 0) [] (finK Try.prog none Try.f62.results.toList r)=(
 r=V.agg [.int .i64 m,.int .i64 (-1)]):=by kernel_rfl
theorem n58 (n a b:Int) (r:V):wC Try.prog sp58 15 zB (zO []) noLs 0 (zC Try.f58) 1000 (zL [.int .i64 n,.int .i64 a,.int .i64 b] 0) [] (finK Try.prog none Try.f58.results.toList r)=(
 ∀(x0:Bool),x0=decide (n≥a)→(x0=true→∀(x3:Bool),x3=decide (n≤b)→r=V.bool x3)∧(x0=false→r=V.bool false)):=by kernel_rfl
theorem n82 (m a x:Int) (r:V):wC Try.prog sp82 9 zB (zO []) noLs 0 (zC Try.f82) 1000 (zL [.agg [.int .i64 m,.int .i64 a],.int .i64 x] 0) [] (finK Try.prog none Try.f82.results.toList r)=(
 ∀(x0:Int),x0=bits .xor .i64 (if IntKind.signed IntKind.i64=true then -1 else IntKind.max IntKind.i64) x→r=V.agg [.int .i64 (meet m a x0).1,.int .i64 (meet m a x0).2]):=by kernel_rfl
theorem n81 (f:Nat→Int×Int) (fr:Bool) (ys ts:List V) (rm:Int) (tg n:Int) (ls:List V) (m a:Int) (r:V):wC Try.prog sp81 23 zB (zO []) noLs 0 (zC Try.f81) 1000 (zL [.agg [.agg (arrF 16 f),.bool fr,.list false ys,.int .i64 rm,.list false ts],.agg [.int .i64 tg,.int .i64 n,.list false ls],.agg [.int .i64 m,.int .i64 a]] 0) [] (finK Try.prog none Try.f81.results.toList r)=(
 ∀(x0:Bool),
 x0=(tg==3)→
 (x0=true→
 SOk
 (arrF 16 f)
 ys ts∧
 ∃f3:Nat→Int×Int,
 (arrF 16 f)=
 (arrF 16 f3)∧
 ∀(g4:Nat→Int×Int),
 g4=putF f3 tg n m a→
 ∀(zs6:List V),
 zs6=putZ fr ys tg n m a→
 ∀(ok8:Bool),
 ok8=putO fr ys tg n→
 r=
 V.agg
 [.agg
 (arrF 16 g4),
 .bool fr,.list false zs6,.int .i64 rm,.list false ts])∧
 (x0=false→
 ∀(x11:Bool),
 x11=(tg==4)→
 (x11=true→
 SOk
 (arrF 16 f)
 ys ts∧
 ∃f14:Nat→Int×Int,
 (arrF 16 f)=
 (arrF 16 f14)∧
 ∀(g15:Nat→Int×Int),
 g15=putF f14 tg n m a→
 ∀(zs17:List V),
 zs17=putZ fr ys tg n m a→
 ∀(ok19:Bool),
 ok19=putO fr ys tg n→
 r=
 V.agg
 [.agg
 (arrF 16 g15),
 .bool fr,.list false zs17,.int .i64 rm,.list false ts])∧
 (x11=false→
 r=
 V.agg
 [.agg
 (arrF 16 f),
 .bool fr,.list false ys,.int .i64 rm,.list false ts]))):=by kernel_rfl
theorem nl97_0 (ts:List V) (n l i:Int) (Nx Ex Rt:List V→List Blk→Prop):wC Try.prog sp97 19 zB (zO []) noLs 0 (zP Try.f97 0).2 1000 (List.zip [0,1,7,8] [.list false ts,.int .i64 n,.int .i64 l,.int .i64 i]) (List.zip [] []) (endK ends97_0 Nx Ex Rt)=(
 ∀(x0:Bool),x0=decide (i<l)→(x0=true→0≤i∧i<↑(List.length ts)∧∃n9003,getV ts i=V.int .i64 n9003∧∀(x4:Bool),x4=(n==n9003)→(x4=true→Rt [V.int .i64 i] [])∧(x4=false→∀(x8:Int),x8=IntKind.wrap .i64 (i+1)→Nx [V.list false ts,V.int .i64 n,V.int .i64 l,V.int .i64 x8] []))∧(x0=false→Ex [] [])):=by kernel_rfl
theorem n97 (ts:List V) (n:Int) (r:V):wC Try.prog sp97 19 zB (zO []) ls97 0 (zC Try.f97) 1000 (zL [.list false ts,.int .i64 n] 0) [] (finK Try.prog none Try.f97.results.toList r)=(
 List.length ts≤9223372036854775807→∀(x1:Int),x1=↑(List.length ts)→x1=↑(List.length ts)∧NLs ts∧List.length ts≤100000∧Int.ofNat 0=0∧(idxI ts n 0=-1→r=V.int .i64 (-1))∧∀(j4:Int),idxI ts n 0=j4→j4≠-1→r=V.int .i64 j4):=by kernel_rfl
theorem n90 (ts:List V) (n:Int) (r:V):wC Try.prog sp90 9 zB (zO []) noLs 0 (zC Try.f90) 1000 (zL [.list false ts,.int .i64 n] 0) [] (finK Try.prog none Try.f90.results.toList r)=(
 NLs ts∧List.length ts≤100000∧∀(x0:Bool),x0=decide (idxI ts n 0≥0)→r=V.bool x0):=by kernel_rfl
theorem n77 (ys:List V) (r:V):wC Try.prog sp77 8 zB (zO []) noLs 0 (zC Try.f77) 1000 (zL [.list false ys] 0) [] (finK Try.prog none Try.f77.results.toList r)=(
 True∧
 ∀(b0:Bool),
 (ys≠[]→b0=false)→(b0=true→r=V.list false [])∧(b0=false→(0=0∧52=52∧((true||false)=true∧True)∧(∀(v5:V),List.Mem v5 ys→V.sz v5=2)∧some 2=some 2∧true=true∧∃b26,some 16=some b26∧(0+List.length ys)*b26≤140737488355328∧0+List.length ys≤9223372036854775807)∧(True→0+List.length ys=List.length ys∧r=V.list false ys))):=by kernel_rfl
theorem n77h (ys:List V) (r:V) (ks:List Blk):wC Try.prog sp77 8 zB (zO []) noLs 0 (zC Try.f77) 1000 (zL [.list false ys] 0) [] (finH Try.prog none Try.f77.results.toList [1003] fun v bs=>r=v∧ks=bs)=(
 True∧
 ∀(b0:Bool),
 (ys≠[]→b0=false)→
 (b0=true→False)∧(b0=false→(0=0∧52=52∧((true||false)=true∧True)∧(∀(v5:V),List.Mem v5 ys→V.sz v5=2)∧some 2=some 2∧true=true∧∃b26,some 16=some b26∧(0+List.length ys)*b26≤140737488355328∧0+List.length ys≤9223372036854775807)∧(True→r=V.sl 1003 (0+List.length ys)∧ks=[⟨some 52,false,V.agg ys⟩]))):=by kernel_rfl
theorem n84 (ts:List V) (r:V):wC Try.prog sp84 8 zB (zO []) noLs 0 (zC Try.f84) 1000 (zL [.list false ts] 0) [] (finK Try.prog none Try.f84.results.toList r)=(
 True∧
 ∀(b0:Bool),
 (ts≠[]→b0=false)→(b0=true→r=V.list false [])∧(b0=false→(0=0∧3=3∧((true||false)=true∧True)∧(∀(v5:V),List.Mem v5 ts→V.sz v5=1)∧some 1=some 1∧true=true∧∃b26,some 8=some b26∧(0+List.length ts)*b26≤140737488355328∧0+List.length ts≤9223372036854775807)∧(True→0+List.length ts=List.length ts∧r=V.list false ts))):=by kernel_rfl
end GoL
