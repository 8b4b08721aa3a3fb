/- A part of the proof: a logic proved sound over the model; contracts; plain laws. -/
import Derived.Test.YteeaefidpkifbaaF2D
set_option linter.all false
open Go Go.Proofs
namespace GoL
set_option maxRecDepth 100000
theorem nl9_0 (l out:List V) (n:Nat) (i:Int) (Nx Ex Rt:List V→List Blk→Prop):wC Try.prog sp9 76 zB (zN Try.f9) noLs 0 (zP Try.f9 0).2 1006 (List.zip [0,5,6] [.list false l,.sl 1005 n,.int .i64 i]) (List.zip [1005] [⟨some 37,false,.agg out⟩]) (endK ends9_0 Nx Ex Rt)=(
 (uB l∧0≤i∧i≤1000000000)∧
 ∀(x0:Bool),
 x0=!beginsB l i→
 (x0=true→(∀(v3:V),List.Mem v3 out→V.ids v3=[])∧Rt [V.nils,V.int .i64 i,V.gd true (V.bool false)] [⟨some 37,false,V.agg out⟩])∧
 (x0=false→
 ∀(x6:Int),
 x6=IntKind.wrap .i64 (i+2)→
 (uB l∧0≤x6)∧
 ∀(x8:Bool),
 x8=(opA l x6 != 1)→
 (x8=true→∀(x11:Int),x11=IntKind.wrap .i64 (i+2)→(∀(v13:V),List.Mem v13 out→V.ids v13=[])∧Rt [V.nils,V.int .i64 x11,V.gd true (V.bool false)] [⟨some 37,false,V.agg out⟩])∧
 (x8=false→
 ∀(x16:Int),
 x16=IntKind.wrap .i64 (i+2)→
 0≤x16∧
 x16<↑(List.length l)∧
 ∃n18 l19,
 getV l x16=V.agg [.int .i64 n18,.list false l19]∧
 ((∀(u20:V),List.Mem u20 l19→T28 u20)∧Int.ofNat 0≤0)∧
 ∀(x22:Int),
 x22=IntKind.wrap .i64 (i+1)→
 0≤x22∧
 x22<↑(List.length l)∧
 ∃n24 l25,
 getV l x22=V.agg [.int .i64 n24,.list false l25]∧
 ((∀(u26:V),List.Mem u26 l25→T28 u26)∧Int.ofNat 0≤2)∧
 ∀(x28:Bool),
 x28=decide (numA l25 2<0)→
 (x28=true→∀(x31:Int),x31=IntKind.wrap .i64 (i+1)→(∀(v33:V),List.Mem v33 out→V.ids v33=[])∧Rt [V.nils,V.int .i64 x31,V.gd true (V.bool false)] [⟨some 37,false,V.agg out⟩])∧
 (x28=false→
 ∀(x36:Bool),
 x36=decide (numA l25 2≥16)→
 (x36=true→∀(x39:Int),x39=IntKind.wrap .i64 (i+1)→(∀(v41:V),List.Mem v41 out→V.ids v41=[])∧Rt [V.nils,V.int .i64 x39,V.gd true (V.bool false)] [⟨some 37,false,V.agg out⟩])∧
 (x36=false→
 ∀(x44:Int),
 x44=IntKind.wrap .i64 (i+3)→
 (uB l∧0≤x44∧x44≤1000000000)∧
 ∀(x46:Bool),
 x46=!(bodyF l x44).2→
 (x46=true→(∀(v49:V),List.Mem v49 out→V.ids v49=[])∧Rt [V.nils,V.int .i64 (bodyF l x44).1,V.gd true (V.bool false)] [⟨some 37,false,V.agg out⟩])∧
 (x46=false→
 (n=List.length out∧
 37=37∧
 ((true||false)=true∧True)∧
 (∀(v52:V),List.Mem v52 [V.agg [.int .i64 i,.int .i64 (bodyF l x44).1,.int .i64 (numA l19 0),.int .i64 (numA l25 2)]]→V.sz v52=4)∧
 some 4=some 4∧
 true=true∧
 ∃b54,
 some 32=some b54∧
 (n+List.length [V.agg [.int .i64 i,.int .i64 (bodyF l x44).1,.int .i64 (numA l19 0),.int .i64 (numA l25 2)]])*b54≤140737488355328∧
 n+List.length [V.agg [.int .i64 i,.int .i64 (bodyF l x44).1,.int .i64 (numA l19 0),.int .i64 (numA l25 2)]]≤9223372036854775807)∧
 (True→
 0≤(bodyF l x44).1∧
 (bodyF l x44).1<↑(List.length l)∧
 ∃n56 l57,
 getV l (bodyF l x44).1=V.agg [.int .i64 n56,.list false l57]∧
 ∀(x58:Bool),
 x58=(n56 != 3)→
 (x58=true→
 (∀(v61:V),List.Mem v61 (out++[V.agg [.int .i64 i,.int .i64 (bodyF l x44).1,.int .i64 (numA l19 0),.int .i64 (numA l25 2)]])→V.ids v61=[])∧
 Nx [V.list false l,V.sl 1005 (List.length out+List.length [V.agg [.int .i64 i,.int .i64 (bodyF l x44).1,.int .i64 (numA l19 0),.int .i64 (numA l25 2)]]),V.int .i64 (bodyF l x44).1]
 [⟨some 37,false,V.agg (out++[V.agg [.int .i64 i,.int .i64 (bodyF l x44).1,.int .i64 (numA l19 0),.int .i64 (numA l25 2)]])⟩])∧
 (x58=false→
 List.length l≤9223372036854775807→
 ∀(x65:Int),
 x65=↑(List.length l)→
 ∀(x67:Int),
 x67=IntKind.wrap .i64 (x65-1)→
 ∀(x69:Bool),
 x69=decide ((bodyF l x44).1<x67)→
 (x69=true→
 (∀(v72:V),List.Mem v72 (out++[V.agg [.int .i64 i,.int .i64 (bodyF l x44).1,.int .i64 (numA l19 0),.int .i64 (numA l25 2)]])→V.ids v72=[])∧
 Rt [V.nils,V.int .i64 (bodyF l x44).1,V.gd true (V.bool false)] [⟨some 37,false,V.agg (out++[V.agg [.int .i64 i,.int .i64 (bodyF l x44).1,.int .i64 (numA l19 0),.int .i64 (numA l25 2)]])⟩])∧
 (x69=false→
 (∀(v75:V),List.Mem v75 (out++[V.agg [.int .i64 i,.int .i64 (bodyF l x44).1,.int .i64 (numA l19 0),.int .i64 (numA l25 2)]])→V.ids v75=[])∧
 Rt [V.sl 1005 (List.length out+List.length [V.agg [.int .i64 i,.int .i64 (bodyF l x44).1,.int .i64 (numA l19 0),.int .i64 (numA l25 2)]]),V.int .i64 0,V.gd true (V.bool true)]
 [⟨some 37,false,V.agg (out++[V.agg [.int .i64 i,.int .i64 (bodyF l x44).1,.int .i64 (numA l19 0),.int .i64 (numA l25 2)]])⟩]))))))))):=by kernel_rfl
theorem n9 (l:List V) (r:V):wC Try.prog sp9 76 zB (zN Try.f9) ls9 0 (zC Try.f9) 1000 (zL [.list false l] 0) [] (finK Try.prog none Try.f9.results.toList r)=(
 uB l∧Int.ofNat 0=0∧(∀(j0:Int) (out1:List V),uK l=([],j0,false)→r=V.tup [.list false [],.int .i64 j0,.bool false])∧∀(out3:List V) (j4:Int),tZ out3→uK l=(out3,j4,true)→List.length out3=List.length out3∧r=V.tup [.list false out3,.int .i64 j4,.bool true]):=by kernel_rfl
end GoL
