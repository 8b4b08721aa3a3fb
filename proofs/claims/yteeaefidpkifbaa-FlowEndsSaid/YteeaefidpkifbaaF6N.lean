/- A part of the proof: a logic proved sound over the model; contracts; plain laws. -/
import Derived.Test.YteeaefidpkifbaaF6D
set_option linter.all false
open Go Go.Proofs
namespace GoL
set_option maxRecDepth 100000
theorem n12 (n:Int) (r:V):wC Try.prog sp12 5 zB (zN Try.f12) noLs 0 (zC Try.f12) 1000 (zL [.int .i64 n] 0) [] (finK Try.prog none Try.f12.results.toList r)=(
 r=V.agg [.int .i64 1,.int .i64 n,.list false []]):=by kernel_rfl
theorem n11 (v:Int) (r:V):wC Try.prog sp11 11 zB (zN Try.f11) noLs 0 (zC Try.f11) 1000 (zL [.int .i64 v] 0) [] (finK Try.prog none Try.f11.results.toList r)=(
 Int.ofNat 4≠0∧
 0≤place v 4∧
 place v 4<↑4∧
 place v 4<↑(List.length [iV 1 7,iV 2 1,iV 2 0,iV 3 0])∧
 V.szs (List.take (Int.toNat (place v 4)) [iV 1 7,iV 2 1,iV 2 0,iV 3 0])=Int.toNat (place v 4)*3∧
 ∃n0 n1 l2,
 getV [iV 1 7,iV 2 1,iV 2 0,iV 3 0] (place v 4)=V.agg [.int .i64 n0,.int .i64 n1,.list false l2]∧
 r=V.agg [.int .i64 n0,.int .i64 n1,.list false l2]):=by kernel_rfl
theorem n14 (v a:Int) (r:V):wC Try.prog sp14 10 zB (zN Try.f14) noLs 0 (zC Try.f14) 1000 (zL [.int .i64 v,.int .i64 a] 0) [] (finK Try.prog none Try.f14.results.toList r)=(
 Int.ofNat 4≠0∧
 0≤place v 4∧
 place v 4<↑4∧
 place v 4<↑(List.length [V.int .i64 1,V.int .i64 2,V.int .i64 4,V.int .i64 a])∧
 V.szs (List.take (Int.toNat (place v 4)) [V.int .i64 1,V.int .i64 2,V.int .i64 4,V.int .i64 a])=Int.toNat (place v 4)*1∧∃n0,getV [V.int .i64 1,V.int .i64 2,V.int .i64 4,V.int .i64 a] (place v 4)=V.int .i64 n0∧r=V.int .i64 n0):=by kernel_rfl
theorem n10 (r:V):wC Try.prog sp10 72 zB (zN Try.f10) noLs 0 (zC Try.f10) 1000 (zL [] 0) [] (finK Try.prog none Try.f10.results.toList r)=(
 ((∀(v0:V),List.Mem v0 [iV 0 1]→V.sz v0=3)∧1≤1000)∧
 ((∀(v2:V),List.Mem v2 [iV 2 1,iV 2 1,iV 0 0]→V.sz v2=3)∧3≤1000)∧
 ((∀(v4:V),List.Mem v4 [iV 0 2]→V.sz v4=3)∧1≤1000)∧
 ((∀(v6:V),List.Mem v6 []→V.sz v6=3)∧0≤1000)∧
 ((∀(v8:V),List.Mem v8 []→V.sz v8=3)∧0≤1000)∧
 uB
 CA∧
 ∀(p10:List V×Int×Bool),
 p10=
 ([V.agg
 [.int .i64 0,.int .i64 (Int.ofNat 4),.int .i64 (numA [iV 0 2] 0),
 .int .i64 (numA [iV 2 1,iV 2 1,iV 0 0] 2)]],
 0,true)→
 ∀(x12:Bool),
 x12=!(Prod.snd p10).2→
 (x12=true→r=V.bool false)∧
 (x12=false→
 ∀(x16:Bool),
 x16=((Prod.snd p10).1 != 0)→
 (x16=true→r=V.bool false)∧
 (x16=false→
 List.length p10.1≤9223372036854775807→
 ∀(x21:Int),
 x21=↑(List.length p10.1)→
 ∀(x23:Bool),
 x23=(x21 != 1)→
 (x23=true→r=V.bool false)∧
 (x23=false→
 Int.ofNat 0≤0∧
 (0:Int)<↑(List.length p10.1)∧
 ∃n27 n28 n29 n30,
 getV p10.1 0=V.agg [.int .i64 n27,.int .i64 n28,.int .i64 n29,.int .i64 n30]∧
 ∀(x31:Bool),
 x31=(n28 != 4)→
 (x31=true→r=V.bool false)∧
 (x31=false→
 Int.ofNat 0≤0∧
 (0:Int)<↑(List.length p10.1)∧
 ∃n35 n36 n37 n38,
 getV p10.1 0=V.agg [.int .i64 n35,.int .i64 n36,.int .i64 n37,.int .i64 n38]∧
 ∀(x39:Bool),
 x39=(n37 != 2)→
 (x39=true→r=V.bool false)∧
 (x39=false→
 Int.ofNat 0≤0∧
 (0:Int)<↑(List.length p10.1)∧
 ∃n43 n44 n45 n46,
 getV p10.1 0=V.agg [.int .i64 n43,.int .i64 n44,.int .i64 n45,.int .i64 n46]∧
 uB
 CA∧
 MOk
 ⟨[],[],[],[],[],CA⟩∧
 ∃E47 n48 a49 m50,
 EFOk
 ⟨[],[],[],[],[],CA⟩
 E47∧
 uY E47
 CA
 n43 n44 n46 n48=
 some (false,a49,m50)∧
 ∀(x51:Bool),x51=!false→(x51=true→∀(x54:Bool),x54=(a49==3)→r=V.bool x54)∧(x51=false→r=V.bool false))))))):=by kernel_rfl
theorem n4 (v w:Int) (r:V):wC Try.prog sp4 169 zB (zN Try.f4) noLs 0 (zC Try.f4) 1000 (zL [.int .i64 v,.int .i64 w] 0) [] (finK Try.prog none Try.f4.results.toList r)=(
 ((∀(v0:V),List.Mem v0 [iV 0 1]→V.sz v0=3)∧List.length [iV 0 1]≤1000)∧
 ((∀(v2:V),List.Mem v2 [iV 2 1,iV 2 1,iV 0 1]→V.sz v2=3)∧
 List.length [iV 2 1,iV 2 1,iV 0 1]≤1000)∧
 ((∀(v4:V),List.Mem v4 [iV 0 2]→V.sz v4=3)∧List.length [iV 0 2]≤1000)∧
 ∀(q6:Int×Int),
 q6=kA (place v 4)→
 ((∀(v8:V),List.Mem v8 [V.agg [.int .i64 q6.1,.int .i64 q6.2,.list false []],iV 3 1]→V.sz v8=3)∧List.length [V.agg [.int .i64 q6.1,.int .i64 q6.2,.list false []],iV 3 1]≤1000)∧
 ((∀(v10:V),List.Mem v10 [iV 0 3]→V.sz v10=3)∧List.length [iV 0 3]≤1000)∧
 ((∀(v12:V),List.Mem v12 [iV 5 4,iV 3 0,iV 3 1]→V.sz v12=3)∧
 List.length [iV 5 4,iV 3 0,iV 3 1]≤1000)∧
 ∀(q14:Int×Int),
 q14=kA (place w 4)→
 ((∀(v16:V),List.Mem v16 [V.agg [.int .i64 q14.1,.int .i64 q14.2,.list false []],iV 3 1]→V.sz v16=3)∧List.length [V.agg [.int .i64 q14.1,.int .i64 q14.2,.list false []],iV 3 1]≤1000)∧
 ((∀(v18:V),List.Mem v18 [iV 5 3]→V.sz v18=3)∧List.length [iV 5 3]≤1000)∧
 ((∀(v20:V),List.Mem v20 [iV 0 4]→V.sz v20=3)∧List.length [iV 0 4]≤1000)∧
 ((∀(v22:V),List.Mem v22 []→V.sz v22=3)∧0≤1000)∧
 ((∀(v24:V),List.Mem v24 []→V.sz v24=3)∧0≤1000)∧
 uB
 (CL q6 q14)∧
 ∀(p26:List V×Int×Bool),
 p26=
 ([V.agg
 [.int .i64 0,.int .i64 (Int.ofNat 10),.int .i64 (numA [iV 0 2] 0),
 .int .i64 (numA [iV 2 1,iV 2 1,iV 0 1] 2)]],
 0,true)→
 ∀(x28:Bool),
 x28=!(Prod.snd p26).2→
 (x28=true→r=V.bool false)∧
 (x28=false→
 List.length p26.1≤9223372036854775807→
 ∀(x33:Int),
 x33=↑(List.length p26.1)→
 ∀(x35:Bool),
 x35=(x33 != 1)→
 (x35=true→r=V.bool false)∧
 (x35=false→
 Int.ofNat 0≤0∧
 (0:Int)<↑(List.length p26.1)∧
 ∃n39 n40 n41 n42,
 getV p26.1 0=V.agg [.int .i64 n39,.int .i64 n40,.int .i64 n41,.int .i64 n42]∧
 uB
 (CL q6 q14)∧
 MOk
 ⟨[V.str [102]],[],[],[],[],(CL q6 q14)⟩∧
 ∃E43 n44 m45,
 EFOk
 ⟨[V.str [102]],[],[],[],[],(CL q6 q14)⟩
 E43∧
 uY E43
 (CL q6 q14)
 n39 n40 n42 n44=
 some (true,0,m45)∧
 (mget (stV m45) 4=none→
 (mget (stV m45) 9=none→
 ∀(q48:Int),
 q48=kB (place v 4) 127→
 ∀(q50:Int),
 q50=kB (place w 4) 127→
 ∀(x52:Int),
 x52=bits .or .i64 q48 q50→
 (true=true→
 (false=true→
 (false=true→
 Int.ofNat 0≤1∧
 (1:Int)<↑16∧
 ∀(x57:Bool),
 x57=(0==x52)→
 (x57=true→
 Int.ofNat 0≤1∧
 (1:Int)<↑16∧
 ∀(x60:Bool),
 x60=(0==x52)→
 (x60=true→Int.ofNat 0≤0∧(0:Int)<↑16∧∀(x63:Bool),x63=(0==127)→(x63=true→Int.ofNat 0≤2∧(2:Int)<↑16∧∀(x66:Bool),x66=(0==0)→(x66=true→r=V.bool true)∧(x66=false→r=V.bool false))∧(x63=false→r=V.bool false))∧
 (x60=false→r=V.bool false))∧
 (x57=false→r=V.bool false))∧
 (false=false→r=V.bool false))∧
 (false=false→r=V.bool false))∧
 (true=false→r=V.bool false))∧
 ((match mget (stV m45) 9 with
 |some val=>true
 |none=>false)=
 true→
 ∃f77 b78 l79 n80 l81,
 mget (stV m45) 9=
 some
 (V.agg
 [.agg
 (arrF 16 f77),
 .bool b78,.list false l79,.int .i64 n80,.list false l81])∧
 ∀(q82:Int),
 q82=kB (place v 4) 127→
 ∀(q84:Int),
 q84=kB (place w 4) 127→
 ∀(x86:Int),
 x86=bits .or .i64 q82 q84→
 (true=true→
 (false=true→
 (true=true→
 Int.ofNat 0≤1∧
 (1:Int)<↑16∧
 ∀(x91:Bool),
 x91=(0==x86)→
 (x91=true→
 Int.ofNat 0≤1∧
 (1:Int)<↑16∧
 ∀(x94:Bool),
 x94=((f77 1).1==x86)→
 (x94=true→Int.ofNat 0≤0∧(0:Int)<↑16∧∀(x97:Bool),x97=(0==127)→(x97=true→Int.ofNat 0≤2∧(2:Int)<↑16∧∀(x100:Bool),x100=(0==0)→(x100=true→r=V.bool true)∧(x100=false→r=V.bool false))∧(x97=false→r=V.bool false))∧
 (x94=false→r=V.bool false))∧
 (x91=false→r=V.bool false))∧
 (true=false→r=V.bool false))∧
 (false=false→r=V.bool false))∧
 (true=false→r=V.bool false)))∧
 ((match mget (stV m45) 4 with
 |some val=>true
 |none=>false)=
 true→
 ∃f111 b112 l113 n114 l115,
 mget (stV m45) 4=
 some
 (V.agg
 [.agg
 (arrF 16 f111),
 .bool b112,.list false l113,.int .i64 n114,.list false l115])∧
 (mget (stV m45) 9=none→
 ∀(q117:Int),
 q117=kB (place v 4) 127→
 ∀(q119:Int),
 q119=kB (place w 4) 127→
 ∀(x121:Int),
 x121=bits .or .i64 q117 q119→
 (true=true→
 (true=true→
 (false=true→
 Int.ofNat 0≤1∧
 (1:Int)<↑16∧
 ∀(x126:Bool),
 x126=((f111 1).1==x121)→
 (x126=true→
 Int.ofNat 0≤1∧
 (1:Int)<↑16∧
 ∀(x129:Bool),
 x129=(0==x121)→
 (x129=true→
 Int.ofNat 0≤0∧
 (0:Int)<↑16∧∀(x132:Bool),x132=((f111 0).1==127)→(x132=true→Int.ofNat 0≤2∧(2:Int)<↑16∧∀(x135:Bool),x135=((f111 2).1==0)→(x135=true→r=V.bool true)∧(x135=false→r=V.bool false))∧(x132=false→r=V.bool false))∧
 (x129=false→r=V.bool false))∧
 (x126=false→r=V.bool false))∧
 (false=false→r=V.bool false))∧
 (true=false→r=V.bool false))∧
 (true=false→r=V.bool false))∧
 ((match mget (stV m45) 9 with
 |some val=>true
 |none=>false)=
 true→
 ∃f146 b147 l148 n149 l150,
 mget (stV m45) 9=
 some
 (V.agg
 [.agg
 (arrF 16 f146),
 .bool b147,.list false l148,.int .i64 n149,.list false l150])∧
 ∀(q151:Int),
 q151=kB (place v 4) 127→
 ∀(q153:Int),
 q153=kB (place w 4) 127→
 ∀(x155:Int),
 x155=bits .or .i64 q151 q153→
 (true=true→
 (true=true→
 (true=true→
 Int.ofNat 0≤1∧
 (1:Int)<↑16∧
 ∀(x160:Bool),
 x160=((f111 1).1==x155)→
 (x160=true→
 Int.ofNat 0≤1∧
 (1:Int)<↑16∧
 ∀(x163:Bool),
 x163=((f146 1).1==x155)→
 (x163=true→
 Int.ofNat 0≤0∧
 (0:Int)<↑16∧∀(x166:Bool),x166=((f111 0).1==127)→(x166=true→Int.ofNat 0≤2∧(2:Int)<↑16∧∀(x169:Bool),x169=((f111 2).1==0)→(x169=true→r=V.bool true)∧(x169=false→r=V.bool false))∧(x166=false→r=V.bool false))∧
 (x163=false→r=V.bool false))∧
 (x160=false→r=V.bool false))∧
 (true=false→r=V.bool false))∧
 (true=false→r=V.bool false))∧
 (true=false→r=V.bool false)))))):=by kernel_rfl
end GoL
