/- A part of the proof: a logic proved sound over the model; contracts; plain laws. -/
import Derived.Test.YteeaefidpkifbaaF4D
set_option linter.all false
open Go Go.Proofs
namespace GoL
set_option maxRecDepth 100000
theorem n21 (fm tm en ar:Int) (m:SM) (q:List Int) (i:Int) (f:Nat→Int×Int) (fr:Bool) (ys ts:List V) (rm:Int) (r:V) (ks:List Blk):wC Try.prog sp21 60 zB (zN Try.f21) noLs 0 (zC Try.f21) 1000 (zL [.ptr 0 0 [],.int .i64 i,.agg [.agg (arrF 16 f),.bool fr,.list false ys,.int .i64 rm,.list false ts]] 0) [(0,⟨none,false,wkV fm tm en ar 1 2⟩),(1,⟨some 48,false,.own 48 (stV m)⟩),(2,⟨some 65,false,.own 65 (frV q)⟩)] (finH Try.prog none Try.f21.results.toList [0,1,2] fun v bs=>r=v∧ks=bs)=(
 ∀(x0:Bool),
 x0=decide (i<fm)→
 (x0=true→r=V.bool false∧ks=[⟨none,false,V.agg [.agg [.int .i64 fm,.int .i64 tm,.int .i64 en,.int .i64 ar],.own 48 [V.ptr 1 0 [],V.nilp],.own 65 [V.ptr 2 0 [],V.nilp]]⟩,⟨some 48,false,V.own 48 (stV m)⟩,⟨some 65,false,V.own 65 (frV q)⟩])∧
 (x0=false→
 ∀(x4:Bool),
 x4=decide (i≥tm)→
 (x4=true→r=V.bool false∧ks=[⟨none,false,V.agg [.agg [.int .i64 fm,.int .i64 tm,.int .i64 en,.int .i64 ar],.own 48 [V.ptr 1 0 [],V.nilp],.own 65 [V.ptr 2 0 [],V.nilp]]⟩,⟨some 48,false,V.own 48 (stV m)⟩,⟨some 65,false,V.own 65 (frV q)⟩])∧
 (x4=false→
 (mget (stV m) i=none→
 (false=true→
 ∃f10 g11,
 (arrF 16 zF)=
 (arrF 16 f10)∧
 (arrF 16 f)=
 (arrF 16 g11)∧
 SOkS ⟨f10,false,[],0,[]⟩∧
 SOkS ⟨g11,fr,ys,rm,ts⟩∧
 ∀(o12:FS),
 o12=tF ⟨f10,false,[],0,[]⟩ ⟨g11,fr,ys,rm,ts⟩→
 ∀(ok14:Bool),
 ok14=uH ⟨f10,false,[],0,[]⟩ ⟨g11,fr,ys,rm,ts⟩→
 ∀(x16:Bool),
 x16=!ok14→
 (x16=true→
 r=V.bool false∧ks=[⟨none,false,V.agg [.agg [.int .i64 fm,.int .i64 tm,.int .i64 en,.int .i64 ar],.own 48 [V.ptr 1 0 [],V.nilp],.own 65 [V.ptr 2 0 [],V.nilp]]⟩,⟨some 48,false,V.own 48 (stV m)⟩,⟨some 65,false,V.own 65 (frV q)⟩])∧
 (x16=false→
 ∃f20 g21,
 (arrF 16 (FS.f o12))=
 (arrF 16 f20)∧
 (arrF 16 zF)=
 (arrF 16 g21)∧
 SOkS ⟨f20,o12.2,o12.3,o12.4,o12.5⟩∧
 SOkS ⟨g21,false,[],0,[]⟩∧
 (uQ ⟨f20,o12.2,o12.3,o12.4,o12.5⟩ ⟨g21,false,[],0,[]⟩=true→
 r=V.bool true∧
 ks=[⟨none,false,V.agg [.agg [.int .i64 fm,.int .i64 tm,.int .i64 en,.int .i64 ar],.own 48 [V.ptr 1 0 [],V.nilp],.own 65 [V.ptr 2 0 [],V.nilp]]⟩,⟨some 48,false,V.own 48 (stV m)⟩,⟨some 65,false,V.own 65 (frV q)⟩])∧
 (uQ ⟨f20,o12.2,o12.3,o12.4,o12.5⟩ ⟨g21,false,[],0,[]⟩=false→
 List.length (stV m)<9223372036854775807∧
 -9223372036854775808≤i∧
 i<9223372036854775808∧
 List.length (frV q)<9223372036854775807∧
 -9223372036854775808≤i∧
 i<9223372036854775808∧
 r=V.bool true∧
 ks=
 [⟨none,false,V.agg [.agg [.int .i64 fm,.int .i64 tm,.int .i64 en,.int .i64 ar],.own 48 [V.ptr 1 0 [],V.nilp],.own 65 [V.ptr 2 0 [],V.nilp]]⟩,
 ⟨some 48,false,V.own 48
 (mput (stV m) i
 (V.agg
 [.agg
 (arrF 16 (FS.f o12)),
 .bool o12.2,.list false o12.3,.int .i64 o12.4,.list false o12.5]))⟩,
 ⟨some 65,false,V.own 65 (mput (frV q) i (V.bool true))⟩])))∧
 (false=false→
 List.length (stV m)<9223372036854775807∧
 -9223372036854775808≤i∧
 i<9223372036854775808∧
 List.length (frV q)<9223372036854775807∧
 -9223372036854775808≤i∧
 i<9223372036854775808∧
 r=V.bool true∧
 ks=
 [⟨none,false,V.agg [.agg [.int .i64 fm,.int .i64 tm,.int .i64 en,.int .i64 ar],.own 48 [V.ptr 1 0 [],V.nilp],.own 65 [V.ptr 2 0 [],V.nilp]]⟩,
 ⟨some 48,false,V.own 48
 (mput (stV m) i
 (V.agg
 [.agg
 (arrF 16 f),
 .bool fr,.list false ys,.int .i64 rm,.list false ts]))⟩,
 ⟨some 65,false,V.own 65 (mput (frV q) i (V.bool true))⟩]))∧
 ((match mget (stV m) i with
 |some val=>true
 |none=>false)=
 true→
 ∃f26 b27 l28 n29 l30,
 mget (stV m) i=
 some
 (V.agg
 [.agg
 (arrF 16 f26),
 .bool b27,.list false l28,.int .i64 n29,.list false l30])∧
 (true=true→
 ∃f32 g33,
 (arrF 16 f26)=
 (arrF 16 f32)∧
 (arrF 16 f)=
 (arrF 16 g33)∧
 SOkS ⟨f32,b27,l28,n29,l30⟩∧
 SOkS ⟨g33,fr,ys,rm,ts⟩∧
 ∀(o34:FS),
 o34=tF ⟨f32,b27,l28,n29,l30⟩ ⟨g33,fr,ys,rm,ts⟩→
 ∀(ok36:Bool),
 ok36=uH ⟨f32,b27,l28,n29,l30⟩ ⟨g33,fr,ys,rm,ts⟩→
 ∀(x38:Bool),
 x38=!ok36→
 (x38=true→
 r=V.bool false∧ks=[⟨none,false,V.agg [.agg [.int .i64 fm,.int .i64 tm,.int .i64 en,.int .i64 ar],.own 48 [V.ptr 1 0 [],V.nilp],.own 65 [V.ptr 2 0 [],V.nilp]]⟩,⟨some 48,false,V.own 48 (stV m)⟩,⟨some 65,false,V.own 65 (frV q)⟩])∧
 (x38=false→
 ∃f42 g43,
 (arrF 16 (FS.f o34))=
 (arrF 16 f42)∧
 (arrF 16 f26)=
 (arrF 16 g43)∧
 SOkS ⟨f42,o34.2,o34.3,o34.4,o34.5⟩∧
 SOkS ⟨g43,b27,l28,n29,l30⟩∧
 (uQ ⟨f42,o34.2,o34.3,o34.4,o34.5⟩ ⟨g43,b27,l28,n29,l30⟩=true→
 r=V.bool true∧
 ks=[⟨none,false,V.agg [.agg [.int .i64 fm,.int .i64 tm,.int .i64 en,.int .i64 ar],.own 48 [V.ptr 1 0 [],V.nilp],.own 65 [V.ptr 2 0 [],V.nilp]]⟩,⟨some 48,false,V.own 48 (stV m)⟩,⟨some 65,false,V.own 65 (frV q)⟩])∧
 (uQ ⟨f42,o34.2,o34.3,o34.4,o34.5⟩ ⟨g43,b27,l28,n29,l30⟩=false→
 List.length (stV m)<9223372036854775807∧
 -9223372036854775808≤i∧
 i<9223372036854775808∧
 List.length (frV q)<9223372036854775807∧
 -9223372036854775808≤i∧
 i<9223372036854775808∧
 r=V.bool true∧
 ks=
 [⟨none,false,V.agg [.agg [.int .i64 fm,.int .i64 tm,.int .i64 en,.int .i64 ar],.own 48 [V.ptr 1 0 [],V.nilp],.own 65 [V.ptr 2 0 [],V.nilp]]⟩,
 ⟨some 48,false,V.own 48
 (mput (stV m) i
 (V.agg
 [.agg
 (arrF 16 (FS.f o34)),
 .bool o34.2,.list false o34.3,.int .i64 o34.4,.list false o34.5]))⟩,
 ⟨some 65,false,V.own 65 (mput (frV q) i (V.bool true))⟩])))∧
 (true=false→
 List.length (stV m)<9223372036854775807∧
 -9223372036854775808≤i∧
 i<9223372036854775808∧
 List.length (frV q)<9223372036854775807∧
 -9223372036854775808≤i∧
 i<9223372036854775808∧
 r=V.bool true∧
 ks=
 [⟨none,false,V.agg [.agg [.int .i64 fm,.int .i64 tm,.int .i64 en,.int .i64 ar],.own 48 [V.ptr 1 0 [],V.nilp],.own 65 [V.ptr 2 0 [],V.nilp]]⟩,
 ⟨some 48,false,V.own 48
 (mput (stV m) i
 (V.agg
 [.agg
 (arrF 16 f),
 .bool fr,.list false ys,.int .i64 rm,.list false ts]))⟩,
 ⟨some 65,false,V.own 65 (mput (frV q) i (V.bool true))⟩]))))):=by kernel_rfl
theorem nl23_0 (xs:List V) (a i:Int) (Nx Ex Rt:List V→List Blk→Prop):wC Try.prog sp23 25 zB (zN Try.f23) noLs 0 (zP Try.f23 0).2 1008 (List.zip [0,3,4] [.list false xs,.int .i64 a,.int .i64 i]) (List.zip [] []) (endK ends23_0 Nx Ex Rt)=(
 List.length xs≤9223372036854775807→
 ∀(x1:Int),x1=↑(List.length xs)→∀(x3:Bool),x3=decide (i<x1)→(x3=true→0≤i∧i<↑(List.length xs)∧∃n6,getV xs i=V.int .i64 n6∧∀(z7:Int),(z7=if n6<a then n6 else a)→∀(x9:Int),x9=IntKind.wrap .i64 (i+1)→Nx [V.list false xs,V.int .i64 z7,V.int .i64 x9] [])∧(x3=false→Ex [V.int .i64 a] [])):=by kernel_rfl
theorem n23 (xs:List V) (r:V):wC Try.prog sp23 25 zB (zN Try.f23) ls23 0 (zC Try.f23) 1000 (zL [.list false xs] 0) [] (finK Try.prog none Try.f23.results.toList r)=(
 List.length xs≤9223372036854775807→
 ∀(x1:Int),
 x1=↑(List.length xs)→
 ∀(x3:Bool),
 x3=decide (x1<1)→
 (x3=true→False∧(True→False∧(True→Int.ofNat 0≤0∧(0:Int)<↑(List.length xs)∧∃n8,getV xs 0=V.int .i64 n8∧sH xs∧Int.ofNat 1=1∧1≤List.length xs∧∀(b9:Int),b9=tJ n8 (List.drop 1 xs)→r=V.int .i64 b9)))∧
 (x3=false→Int.ofNat 0≤0∧(0:Int)<↑(List.length xs)∧∃n12,getV xs 0=V.int .i64 n12∧sH xs∧Int.ofNat 1=1∧1≤List.length xs∧∀(b13:Int),b13=tJ n12 (List.drop 1 xs)→r=V.int .i64 b13)):=by kernel_rfl
theorem n25 (T E:Nat) (fz:Bool) (t:V) (r:V) (ks:List Blk):wC Try.prog sp25 4 zB (zN Try.f25) noLs 0 (zC Try.f25) 1000 (zL [.own T [.ptr 0 0 [],.nilp]] 0) [(0,⟨some E,fz,t⟩)] (finH Try.prog none Try.f25.results.toList [0,1000] fun v bs=>r=v∧ks=bs)=(
 (0=0∧
 ∀(v0:V),
 List.Mem v0 [V.ptr 1000 0 []]→
 (match v0 with
 |V.tup vs=>false
 |V.gd g v=>false
 |V.nbox v=>false
 |V.junk=>false
 |x=>true)=
 true∧
 (match v0 with
 |V.agg vs=>true
 |x=>false)=
 false)∧
 (True→r=V.fn 32 [V.ptr 1000 0 []]∧ks=[⟨some E,fz,t⟩,⟨none,false,V.own T [V.ptr 0 0 [],V.nilp]⟩])):=by kernel_rfl
end GoL
