/- A part of the proof: a logic proved sound over the model; contracts; plain laws. -/
import Derived.Test.YteeaefidpkifbaaF1D
set_option linter.all false
open Go Go.Proofs
namespace GoL
set_option maxRecDepth 100000
theorem n18 (l:List V) (i:Int) (r:V):wC Try.prog sp18 14 zB (zN Try.f18) noLs 0 (zC Try.f18) 1000 (zL [.list false l,.int .i64 i] 0) [] (finK Try.prog none Try.f18.results.toList r)=(
 List.length l≤9223372036854775807→∀(x1:Int),x1=↑(List.length l)→∀(x3:Bool),x3=decide (i<x1)→(x3=true→0≤i∧i<↑(List.length l)∧∃n6 l7,getV l i=V.agg [.int .i64 n6,.list false l7]∧r=V.int .i64 n6)∧(x3=false→r=V.int .i64 0)):=by kernel_rfl
theorem n19 (op n:Int) (ag:List V) (r:V):wC Try.prog sp19 16 zB (zN Try.f19) noLs 0 (zC Try.f19) 1000 (zL [.agg [.int .i64 op,.list false ag],.int .i64 n] 0) [] (finK Try.prog none Try.f19.results.toList r)=(
 List.length ag≤9223372036854775807→∀(x1:Int),x1=↑(List.length ag)→∀(x3:Bool),x3=decide (n<x1)→(x3=true→0≤n∧n<↑(List.length ag)∧∃n6 n7 l8,getV ag n=V.agg [.int .i64 n6,.int .i64 n7,.list false l8]∧r=V.int .i64 n7)∧(x3=false→r=V.int .i64 (-1))):=by kernel_rfl
theorem n17 (l:List V) (i:Int) (r:V):wC Try.prog sp17 16 zB (zN Try.f17) noLs 0 (zC Try.f17) 1000 (zL [.list false l,.int .i64 i] 0) [] (finK Try.prog none Try.f17.results.toList r)=(
 (uB l∧0≤i)∧∀(x0:Bool),x0=(opA l i==1)→(x0=true→∀(x3:Int),x3=IntKind.wrap .i64 (i+1)→(uB l∧0≤x3)∧∀(x5:Bool),x5=(opA l x3==2)→r=V.bool x5)∧(x0=false→r=V.bool false)):=by kernel_rfl
theorem nl20_0 (l:List V) (i:Int) (Nx Ex Rt:List V→List Blk→Prop):wC Try.prog sp20 34 zB (zN Try.f20) noLs 0 (zP Try.f20 0).2 1002 (List.zip [0,1] [.list false l,.int .i64 i]) (List.zip [] []) (endK ends20_0 Nx Ex Rt)=(
 List.length l≤9223372036854775807→
 ∀(x1:Int),
 x1=↑(List.length l)→
 ∀(x3:Bool),
 x3=decide (i<x1)→
 (x3=true→
 (uB l∧0≤i∧i≤1000000000)∧
 (beginsB l i=true→Rt [V.int .i64 i,V.gd true (V.bool true)] [])∧
 (beginsB l i=false→
 0≤i∧
 i<↑(List.length l)∧
 ∃n8 l9,
 getV l i=V.agg [.int .i64 n8,.list false l9]∧
 ∀(x10:Bool),
 x10=(n8==3)→
 (x10=true→Rt [V.int .i64 i,V.gd true (V.bool true)] [])∧
 (x10=false→0≤i∧i<↑(List.length l)∧∃n14 l15,getV l i=V.agg [.int .i64 n14,.list false l15]∧∀(x16:Bool),x16=(n14==2)→(x16=true→Rt [V.int .i64 i,V.gd true (V.bool false)] [])∧(x16=false→∀(x20:Int),x20=IntKind.wrap .i64 (i+1)→Nx [V.list false l,V.int .i64 x20] []))))∧
 (x3=false→Ex [V.int .i64 i] [])):=by kernel_rfl
theorem n20 (l:List V) (i:Int) (r:V):wC Try.prog sp20 34 zB (zN Try.f20) ls20 0 (zC Try.f20) 1000 (zL [.list false l,.int .i64 i] 0) [] (finK Try.prog none Try.f20.results.toList r)=(
 uB l∧0≤i∧i≤1000000000∧(∀(j0:Int),0≤j0→bodyF l i=(j0,false)→r=V.tup [.int .i64 j0,.bool false])∧∀(j3:Int) (b4:Bool),bodyF l i=(j3,b4)→r=V.tup [.int .i64 j3,.bool b4]):=by kernel_rfl
theorem n38 (op n:Int) (ag:List V) (r:V):wC Try.prog sp38 13 zB (zN Try.f38) noLs 0 (zC Try.f38) 1000 (zL [.agg [.int .i64 op,.list false ag],.dptr (.int .i64 n)] 0) [] (finK Try.prog none Try.f38.results.toList r)=(
 ∀(x0:Bool),x0=(op==1)→(x0=true→((∀(u3:V),List.Mem u3 ag→T28 u3)∧Int.ofNat 0≤0)∧∀(x5:Bool),x5=(numA ag 0==n)→r=V.bool x5)∧(x0=false→r=V.bool false)):=by kernel_rfl
theorem nl37_0 (l:List V) (n m i:Int) (Nx Ex Rt:List V→List Blk→Prop):wC Try.prog sp37 19 zB (zN Try.f37) noLs 0 (zP Try.f37 0).2 1004 (List.zip [0,1,7,8] [.list false l,.fn 38 [.dptr (.int .i64 n)],.int .i64 m,.int .i64 i]) (List.zip [] []) (endK ends37_0 Nx Ex Rt)=(
 ∀(x0:Bool),
 x0=decide (i<m)→
 (x0=true→
 0≤i∧
 i<↑(List.length l)∧
 ∃n3 l4,
 getV l i=V.agg [.int .i64 n3,.list false l4]∧
 (∀(u5:V),List.Mem u5 l4→T28 u5)∧(tW n (V.agg [.int .i64 n3,.list false l4])=true→Rt [V.int .i64 i] [])∧(tW n (V.agg [.int .i64 n3,.list false l4])=false→∀(x9:Int),x9=IntKind.wrap .i64 (i+1)→Nx [V.list false l,V.fn 38 [V.dptr (V.int .i64 n)],V.int .i64 m,V.int .i64 x9] []))∧
 (x0=false→Ex [] [])):=by kernel_rfl
theorem n37 (l:List V) (n:Int) (r:V):wC Try.prog sp37 19 zB (zN Try.f37) ls37 0 (zC Try.f37) 1000 (zL [.list false l,.fn 38 [.dptr (.int .i64 n)]] 0) [] (finK Try.prog none Try.f37.results.toList r)=(
 List.length l≤9223372036854775807→∀(x1:Int),x1=↑(List.length l)→uB l∧x1=↑(List.length l)∧Int.ofNat 0=0∧(uD n l 0=-1→r=V.int .i64 (-1))∧∀(j4:Int),uD n l 0=j4→j4≠-1→r=V.int .i64 j4):=by kernel_rfl
theorem n27 (l:List V) (i:Int) (r:V):wC Try.prog sp27 8 zB (zN Try.f27) noLs 0 (zC Try.f27) 1000 (zL [.list false l,.int .i64 i] 0) [] (finK Try.prog none Try.f27.results.toList r)=(
 (0=0∧
 ∀(v0:V),
 List.Mem v0 [V.ptr 1000 0 []]→
 (match v0 with
 |V.tup vs=>false
 |V.gd g v=>false
 |V.nbox v=>false
 |V.junk=>false
 |x=>true)=
 true∧
 (match v0 with
 |V.agg vs=>true
 |x=>false)=
 false)∧
 (True→uB l∧r=V.int .i64 (uD i l 0))):=by kernel_rfl
end GoL
