/- A part of the proof: a logic proved sound over the model; contracts; plain laws. -/
import Derived.Test.YteeaefidpkifbaaNN
import Derived.Test.YteeaefidpkifbaaOP
set_option linter.all false
open Go Go.Proofs
namespace GoL
set_option maxRecDepth 8000
attribute [local irreducible] wC
theorem m00:made 0 (-1)=(Int.ofNat 0,Int.negSucc 0):=by decide +kernel
theorem se25:StructEq Try.prog 52:=structEq_of Try.underlying52 (by kernel_rfl) (by decide) (by decide) Try.underlying3 Try.underlying3 rfl rfl Try.eqGuardType52
theorem sp64_ok:SpOk Try.prog sp64:=zD
theorem c64 (m a:Int):CallP Try.prog 64 [.int .i64 m,.int .i64 a] (.agg [.int .i64 (made m a).1,.int .i64 (made m a).2]):=by
 refine zJ sp64_ok Try.func64 Try.ntmps64 (by kernel_rfl) ((n64 m a _).mpr ?_)
 (repeat' (first|(refine And.intro ?_ ?_)|(intro x hx;subst hx)|(intro _)))<;>(first|exact se25|rfl|(simp only [made, *,if_true,if_false,Bool.false_eq_true,cond_true,cond_false,↓reduceIte];done)|(simp only [made, *,if_true,if_false,Bool.false_eq_true,cond_true,cond_false,↓reduceIte];first|rfl|(simp;done))|skip)
theorem b64_ok (args:List V) (k:V→Prop) (h:b64 args k):∃r,CallP Try.prog 64 args r∧k r:=by
 unfold b64 at h
 split at h
 ·exact ⟨_,c64 _ _,h⟩
 ·exact h.elim
theorem sp63_ok:SpOk Try.prog sp63:=zA b64_ok (zD)
theorem c63 (m a:Int):CallP Try.prog 63 [.agg [.int .i64 m,.int .i64 a]] (.agg [.int .i64 (made m a).1,.int .i64 (made m a).2]):=by
 refine zJ sp63_ok Try.func63 Try.ntmps63 (by kernel_rfl) ((n63 m a _).mpr ?_)
 (repeat' (first|(refine And.intro ?_ ?_)|(intro x hx;subst hx)|(intro _)))<;>(first|exact se25|rfl|(simp only [made, *,if_true,if_false,Bool.false_eq_true,cond_true,cond_false,↓reduceIte];done)|(simp only [made, *,if_true,if_false,Bool.false_eq_true,cond_true,cond_false,↓reduceIte];first|rfl|(simp;done))|skip)
theorem b63_ok (args:List V) (k:V→Prop) (h:b63 args k):∃r,CallP Try.prog 63 args r∧k r:=by
 unfold b63 at h
 split at h
 ·exact ⟨_,c63 _ _,h⟩
 ·exact h.elim
theorem sp60_ok:SpOk Try.prog sp60:=zA b63_ok (zA b64_ok (zD))
theorem c60 (m a x:Int):CallP Try.prog 60 [.agg [.int .i64 m,.int .i64 a],.int .i64 x] (.agg [.int .i64 (meet m a x).1,.int .i64 (meet m a x).2]):=by
 refine zJ sp60_ok Try.func60 Try.ntmps60 (by kernel_rfl) ((n60 m a x _).mpr ?_)
 (repeat' (first|(refine And.intro ?_ ?_)|(intro x hx;subst hx)|(intro _)))<;>(first|exact se25|rfl|(simp only [meet, *,if_true,if_false,Bool.false_eq_true,cond_true,cond_false,↓reduceIte];done)|(simp only [meet, *,if_true,if_false,Bool.false_eq_true,cond_true,cond_false,↓reduceIte];first|rfl|(simp;done))|skip)
theorem b60_ok (args:List V) (k:V→Prop) (h:b60 args k):∃r,CallP Try.prog 60 args r∧k r:=by
 unfold b60 at h
 split at h
 ·exact ⟨_,c60 _ _ _,h⟩
 ·exact h.elim
theorem sp72_ok:SpOk Try.prog sp72:=zA b63_ok (zD)
theorem c72 (m a:Int):CallP Try.prog 72 [.agg [.int .i64 m,.int .i64 a]] (.bool (plain m a)):=by
 refine zJ sp72_ok Try.func72 Try.ntmps72 (by kernel_rfl) ((n72 m a _).mpr ?_)
 (repeat' (first|(refine And.intro ?_ ?_)|(intro x hx;subst hx)|(intro _)))<;>(first|exact se25|rfl|(simp only [plain, *,if_true,if_false,Bool.false_eq_true,cond_true,cond_false,↓reduceIte];done)|(simp only [plain, *,if_true,if_false,Bool.false_eq_true,cond_true,cond_false,↓reduceIte];first|rfl|(simp;done))|skip)
theorem b72_ok (args:List V) (k:V→Prop) (h:b72 args k):∃r,CallP Try.prog 72 args r∧k r:=by
 unfold b72 at h
 split at h
 ·exact ⟨_,c72 _ _,h⟩
 ·exact h.elim
theorem sp65_ok:SpOk Try.prog sp65:=zA b60_ok (zD)
theorem c65 (m a:Int):CallP Try.prog 65 [.agg [.int .i64 m,.int .i64 a]] (.agg [.int .i64 (meet m a (-1)).1,.int .i64 (meet m a (-1)).2]):=by
 refine zJ sp65_ok Try.func65 Try.ntmps65 (by kernel_rfl) ((n65 m a _).mpr ?_)
 (repeat' (first|(refine And.intro ?_ ?_)|(intro x hx;subst hx)|(intro _)))<;>(first|exact se25|rfl|(simp only [meet, *,if_true,if_false,Bool.false_eq_true,cond_true,cond_false,↓reduceIte];done)|(simp only [meet, *,if_true,if_false,Bool.false_eq_true,cond_true,cond_false,↓reduceIte];first|rfl|(simp;done))|skip)
theorem b65_ok (args:List V) (k:V→Prop) (h:b65 args k):∃r,CallP Try.prog 65 args r∧k r:=by
 unfold b65 at h
 split at h
 ·exact ⟨_,c65 _ _,h⟩
 ·exact h.elim
theorem sp43_ok:SpOk Try.prog sp43:=zA b65_ok (zD)
theorem c43 (m a n b:Int):CallP Try.prog 43 [.agg [.int .i64 m,.int .i64 a],.agg [.int .i64 n,.int .i64 b]] (.bool (alikeK m a n b)):=by
 refine zJ sp43_ok Try.func43 Try.ntmps43 (by kernel_rfl) ((n43 m a n b _).mpr ?_)
 (repeat' (first|(refine And.intro ?_ ?_)|(intro x hx;subst hx)|(intro _)))<;>(first|exact se25|rfl|(simp only [alikeK, *,if_true,if_false,Bool.false_eq_true,cond_true,cond_false,↓reduceIte];done)|(simp only [alikeK, *,if_true,if_false,Bool.false_eq_true,cond_true,cond_false,↓reduceIte];first|rfl|(simp;done))|skip)
theorem b43_ok (args:List V) (k:V→Prop) (h:b43 args k):∃r,CallP Try.prog 43 args r∧k r:=by
 unfold b43 at h
 split at h
 ·exact ⟨_,c43 _ _ _ _,h⟩
 ·exact h.elim
theorem sp30_ok:SpOk Try.prog sp30:=zD
theorem c30:CallP Try.prog 30 [] (.agg [.int .i64 0,.int .i64 (-1)]):=by
 refine zJ sp30_ok Try.func30 Try.ntmps30 (by kernel_rfl) ((n30 _).mpr ?_)
 (repeat' (first|(refine And.intro ?_ ?_)|(intro x hx;subst hx)|(intro _)))<;>(first|exact se25|rfl|(simp only [made, *,if_true,if_false,Bool.false_eq_true,cond_true,cond_false,↓reduceIte];done)|(simp only [made, *,if_true,if_false,Bool.false_eq_true,cond_true,cond_false,↓reduceIte];first|rfl|(simp;done))|skip)
theorem b30_ok (args:List V) (k:V→Prop) (h:b30 args k):∃r,CallP Try.prog 30 args r∧k r:=by
 unfold b30 at h
 split at h
 ·exact ⟨_,c30,h⟩
 ·exact h.elim
theorem sp87_ok:SpOk Try.prog sp87:=zA b30_ok (zA b43_ok (zD))
theorem c87 (m a:Int):CallP Try.prog 87 [.agg [.int .i64 m,.int .i64 a]] (.bool (alikeK m a 0 (-1))):=by
 refine zJ sp87_ok Try.func87 Try.ntmps87 (by kernel_rfl) ((n87 m a _).mpr ?_)
 (repeat' (first|(refine And.intro ?_ ?_)|(intro x hx;subst hx)|(intro _)))<;>(first|exact se25|rfl|(simp only [alikeK, *,if_true,if_false,Bool.false_eq_true,cond_true,cond_false,↓reduceIte];done)|(simp only [alikeK, *,if_true,if_false,Bool.false_eq_true,cond_true,cond_false,↓reduceIte];first|rfl|(simp;done))|skip)
theorem b87_ok (args:List V) (k:V→Prop) (h:b87 args k):∃r,CallP Try.prog 87 args r∧k r:=by
 unfold b87 at h
 split at h
 ·exact ⟨_,c87 _ _,h⟩
 ·exact h.elim
theorem arr_len (f:Nat→Int×Int):(arrF 16 f).length=16:=by simp [arrF]
theorem arr_get (f:Nat→Int×Int) {j:Nat} (h:j<16):(arrF 16 f)[j]? =some (.agg [.int .i64 (f j).1,.int .i64 (f j).2]):=by
 simp [arrF,h]
theorem arr_congr {f g:Nat→Int×Int} (h:∀j,j<16→f j=g j):arrF 16 f=arrF 16 g:=by
 apply List.map_congr_left
 intro j hj
 rw [h j (by simpa using hj)]
theorem arr_sz (f:Nat→Int×Int):∀v∈arrF 16 f,v.sz=2:=by
 intro v hv
 simp only [arrF,List.mem_map] at hv
 obtain ⟨i,_,rfl⟩:=hv
 rfl
theorem off_arr (f:Nat→Int×Int) {j:Nat} (h:j<16):offQ (.agg (arrF 16 f)) [j]=j*2:=by
 simp only [offQ,V.off,arr_get f h]
 rw [szs_const (z:=2) (fun v hv=>arr_sz f v (List.mem_of_mem_take hv))]
 simp [arr_len];omega
theorem sub_arr (f:Nat→Int×Int) {j:Nat} (h:j<16):subQ (.agg (arrF 16 f)) [j]=some (.agg [.int .i64 (f j).1,.int .i64 (f j).2]):=by
 simp only [subQ,V.sub,arr_get f h]
theorem upd_arr (f:Nat→Int×Int) {j:Nat} (m a:Int) (h:j<16):updQ (.agg [.int .i64 m,.int .i64 a]) (.agg (arrF 16 f)) [j]=.agg (arrF 16 (setF f j (m,a))):=by
 simp only [updQ,V.upd,arr_get f h]
 congr 1
 apply List.ext_getElem
 ·simp [arrF]
 ·intro i h1 h2
  simp only [arrF,List.length_set,List.length_map,List.length_range,List.getElem_set,List.getElem_map,List.getElem_range,setF] at*
  by_cases e:j=i
  ·subst e;simp
  ·rw [if_neg e,if_neg (fun h=>e h.symm)]
theorem offP {f:Nat→Int×Int} {i:Int} (h0:0≤i) (h1:i<16):offQ (.agg (arrF 16 f)) [Int.toNat i]+0=0+Int.toNat i*2:=by rw [off_arr f (by omega)];omega
theorem subP {f:Nat→Int×Int} {i:Int} {x:V} (hx:x.sz=2) (h0:0≤i) (h1:i<16):∃u,subQ (.agg (arrF 16 f)) [Int.toNat i]=some u∧x.sz=u.sz:=⟨_,sub_arr f (by omega),hx⟩
theorem updP {f:Nat→Int×Int} {i m a:Int} (h0:0≤i) (h1:i<16):V.agg (arrF 16 (setF f i.toNat (m,a)))=updQ (.agg [.int .i64 m,.int .i64 a]) (.agg (arrF 16 f)) [Int.toNat i]:=(upd_arr f m a (by omega)).symm
theorem wrap_le {i:Int} (h0:0≤i) (h1:i<4611686018427387904):IntKind.wrap IntKind.i64 (i+1)=i+1:=by rw [IntKind.wrap_i64];omega
theorem sp22_ok:SpOk Try.prog sp22:=zA b30_ok zD
theorem lp22:LsOk Try.prog 21 1003 [0,2,3,5] [1000,1001] ent22 (zP Try.f22 0).2:=by
 intro vs ks1 K h
 unfold ent22 at h
 split at h
 ·rename_i _ n i t0 X r
  obtain ⟨rfl,rfl,rfl,⟨f0,rfl⟩,hK⟩:=h
  refine zT (hints:=hintOf [(5004,53),(7004,53)]) (prs:=zO []) (Ls:=noLs) sp22_ok ends22_0 (γ:=Int×(Nat→Int×Int)) (fun g=>[.int .i64 n,.ptr 1000 0 [],.ptr 1001 0 [],.int .i64 g.1]) (fun g=>[⟨none,false,zS⟩,⟨none,false,.agg [.agg (arrF 16 g.2),.bool false,.nils,.int .i64 0,.nils]⟩]) (fun g=>(16-g.1).toNat)
   (fun g=>0≤g.1∧g.1≤16∧∀j:Nat,(j:Int)<g.1→g.2 j=entF n j) K (zK (by kernel_rfl)) ?_ (0,f0) ⟨Int.le_refl 0,by show (0:Int)≤16;decide,fun j hj=>by simp only at hj;omega⟩
  rintro ⟨i,f⟩ ⟨h0,h59,hf⟩
  refine (nl22_0 f n i _ _ _).mpr ?_
  simp only at h0 h59 hf
  intro x0 hx0;subst hx0
  refine ⟨fun hx=>?_,fun hx=>?_⟩
  ·simp only [decide_eq_true_eq] at hx
   refine ⟨h0,hx,offP h0 hx,subP rfl h0 hx,setF f i.toNat (0,-1),updP h0 hx, ?_⟩
   intro x5 hx5;subst hx5
   refine ⟨fun hx5=>⟨h0,hx,offP h0 hx,subP rfl h0 hx,setF (setF f i.toNat (0,-1)) i.toNat (127,-1),updP h0 hx, ?_⟩,fun hx5=>?_⟩
   ·simp only [decide_eq_true_eq] at hx5
    intro x hxx
    rw [wrap_le h0 (by omega)] at hxx;subst hxx
    refine ⟨(i+1,setF (setF f i.toNat (0,-1)) i.toNat (127,-1)),rfl,rfl,by show (16-(i+1)).toNat<(16-i).toNat;omega,by show 0≤i+1;omega,by show i+1≤16;omega,fun j hj=>?_⟩
    simp only [setF]
    split
    ·rename_i e
     have:(j:Int)<n:=by omega
     simp [entF,this]
    ·exact hf j (by simp only at hj;omega)
   ·simp only [decide_eq_false_iff_not] at hx5
    intro x hxx
    rw [wrap_le h0 (by omega)] at hxx;subst hxx
    refine ⟨(i+1,setF f i.toNat (0,-1)),rfl,rfl,by show (16-(i+1)).toNat<(16-i).toNat;omega,by show 0≤i+1;omega,by show i+1≤16;omega,fun j hj=>?_⟩
    simp only [setF]
    split
    ·rename_i e
     have:¬(j:Int)<n:=by omega
     simp [entF,this]
    ·exact hf j (by simp only at hj;omega)
  ·simp only [decide_eq_false_iff_not] at hx
   have e:arrF 16 f=arrF 16 (entF n):=arr_congr fun j hj=>hf j (by omega)
   rw [e]
   exact hK
 ·exact h.elim
theorem c22 (n:Int):CallP Try.prog 22 [.int .i64 n] (.agg [.agg (arrF 16 (entF n)),.bool false,.list false [],.int .i64 0,.list false []]):=by
 refine call_loops sp22_ok Try.func22 Try.ntmps22 (by kernel_rfl) (zR fun p hp=>?_) ((n22 n _).mpr ⟨rfl,rfl,rfl,⟨zF,rfl⟩,rfl⟩)
 have e:loopsOf 0 (zC Try.f22)=[zP Try.f22 0]:=by kernel_rfl
 rw [e] at hp
 simp only [List.mem_cons,List.not_mem_nil,or_false] at hp
 subst hp
 exact zU lp22
theorem b22_ok (args:List V) (k:V→Prop) (h:b22 args k):∃r,CallP Try.prog 22 args r∧k r:=by
 unfold b22 at h
 split at h
 ·exact ⟨_,c22 _,h _ rfl⟩
 ·exact h.elim
theorem kls_sz {ys:List V} (h:KLs ys):∀v,List.Mem v ys→V.sz v=2:=by
 intro v hv
 obtain ⟨m,a,rfl⟩:=h v hv
 rfl
theorem nls_sz {ys:List V} (h:NLs ys):∀v,List.Mem v ys→V.sz v=1:=by
 intro v hv
 obtain ⟨m,rfl⟩:=h v hv
 rfl
theorem cpy {l:List V} {x:V}:l.take (List.replicate (Int.toNat (l.length:Int)) x).length++(List.replicate (Int.toNat (l.length:Int)) x).drop l.length=l:=by simp
theorem sp40_ok:SpOk Try.prog sp40:=zD
theorem c40 (f:Nat→Int×Int) (fr:Bool) (ys ts:List V) (rm:Int) (h1:KLs ys) (h2:ys.length≤1000) (h9003:NLs ts) (h9004:ts.length≤1000):CallP Try.prog 40 [.agg [.agg (arrF 16 f),.bool fr,.list false ys,.int .i64 rm,.list false ts]] (.agg [.agg (arrF 16 f),.bool fr,.list false ys,.int .i64 rm,.list false ts]):=by
 refine zJ sp40_ok Try.func40 Try.ntmps40 (by kernel_rfl) ((n40 f fr ys ts rm _).mpr ?_)
 intro _ x1 e1;subst e1
 refine ⟨⟨by omega,by omega,by omega,by omega,rfl⟩,fun _=>⟨⟨by simp,rfl,rfl,trivial,kls_sz h1,(fun _=>by simp),(fun _=>by simp)⟩,fun _ x9 _ _ x12 e12=>?_⟩⟩
 subst e12
 refine ⟨⟨by omega,by omega,by omega,by omega,rfl⟩,fun _=>⟨⟨by simp,rfl,rfl,trivial,nls_sz h9003,(fun _=>by simp),(fun _=>by simp)⟩,fun _ x20 _=>⟨?_, ?_, ?_⟩⟩⟩
 ·rw [cpy];simp
 ·rw [cpy];simp
 ·rw [cpy,cpy]
theorem b40_ok (args:List V) (k:V→Prop) (h:b40 args k):∃r,CallP Try.prog 40 args r∧k r:=by
 unfold b40 at h
 split at h
 ·obtain ⟨⟨⟨f,rfl⟩,h1,h2,h9003,h9004⟩,hk⟩:=h
  exact ⟨_,c40 _ _ _ _ _ h1 h2 h9003 h9004,hk⟩
 ·exact h.elim
theorem sp93_ok:SpOk Try.prog sp93:=zD
theorem c93 (f:Nat→Int×Int) (fr:Bool) (ys ts:List V) (rm n:Int):CallP Try.prog 93 [.agg [.agg (arrF 16 f),.bool fr,.list false ys,.int .i64 rm,.list false ts],.int .i64 n] (.bool (slotB fr ys n)):=by
 refine zJ sp93_ok Try.func93 Try.ntmps93 (by kernel_rfl) ((n93 f fr ys ts rm n _).mpr ?_)
 refine ⟨fun h=>?_,fun h=>by simp [slotB,h]⟩
 intro x1 e1;subst e1
 refine ⟨fun h1=>?_,fun h1=>by simp [slotB,h,h1]⟩
 intro _ x5 e5 x7 e7
 subst e5 e7
 simp only [decide_eq_true_eq] at h1
 simp [slotB,h,h1]
theorem b93_ok (args:List V) (k:V→Prop) (h:b93 args k):∃r,CallP Try.prog 93 args r∧k r:=by
 unfold b93 at h
 split at h
 ·obtain ⟨⟨⟨f,rfl⟩,h1,h2,h9003,h9004⟩,hk⟩:=h
  exact ⟨_,c93 _ _ _ _ _ _,hk⟩
 ·exact h.elim
theorem sp61_ok:SpOk Try.prog sp61:=zA b40_ok (zA b30_ok zD)
theorem lp61:LsOk Try.prog 20 1007 [2,4,5] [1000,1001] ent61 (zP Try.f61 0).2:=by
 intro vs ks1 K h
 unfold ent61 at h
 split at h
 ·rename_i _ i X fr ys rm ts t0
  obtain ⟨hi0,rfl,f0,rfl,hK⟩:=h
  refine zT (hints:=hintOf [(5004,53)]) (prs:=zO []) (Ls:=noLs) sp61_ok ends61_0 (γ:=Int×(Nat→Int×Int)) (fun g=>[.ptr 1000 0 [],.ptr 1001 0 [],.int .i64 g.1]) (fun g=>[⟨none,false,.agg [.agg (arrF 16 g.2),.bool fr,.list false ys,.int .i64 rm,.list false ts]⟩,⟨none,false,zS⟩]) (fun g=>(16-g.1).toNat)
   (fun g=>0≤g.1∧i≤g.1∧(∀j:Nat,(j:Int)<g.1→g.2 j=cutF f0 i j)∧(∀j:Nat,g.1≤j→g.2 j=f0 j)) K (zK (by kernel_rfl)) ?_ (i,f0) ⟨hi0,Int.le_refl _,fun j hj=>by simp only at hj;simp [cutF,hj],fun j hj=>rfl⟩
  rintro ⟨j,f⟩ ⟨h0,hij,hf,hg⟩
  refine (nl61_0 f fr ys ts rm j _ _ _).mpr ?_
  simp only at h0 hij hf hg
  intro x0 hx0;subst hx0
  refine ⟨fun hx=>?_,fun hx=>?_⟩
  ·simp only [decide_eq_true_eq] at hx
   refine ⟨h0,hx,offP h0 hx,subP rfl h0 hx,setF f j.toNat (0,-1),updP h0 hx, ?_⟩
   intro x hxx
   rw [wrap_le h0 (by omega)] at hxx;subst hxx
   refine ⟨(j+1,setF f j.toNat (0,-1)),rfl,rfl,by show (16-(j+1)).toNat<(16-j).toNat;omega,by show 0≤j+1;omega,by show i≤j+1;omega,fun k hk=>?_,fun k hk=>?_⟩
   ·simp only at hk
    simp only [setF]
    split
    ·have:¬(k:Int)<i:=by omega
     simp [cutF,this]
    ·exact hf k (by omega)
   ·simp only at hk
    simp only [setF]
    rw [if_neg (by omega)]
    exact hg k (by omega)
  ·simp only [decide_eq_false_iff_not] at hx
   have e:arrF 16 f=arrF 16 (cutF f0 i):=arr_congr fun k hk=>hf k (by omega)
   rw [e]
   exact hK
 ·exact h.elim
theorem c61 (f:Nat→Int×Int) (fr:Bool) (ys ts:List V) (rm n:Int) (hs:SOk (arrF 16 f) ys ts):CallP Try.prog 61 [.agg [.agg (arrF 16 f),.bool fr,.list false ys,.int .i64 rm,.list false ts],.int .i64 n] (.agg [.agg (arrF 16 (cutF f (if 0<(if 16<n then 16 else n) then (if 16<n then 16 else n) else 0))),.bool fr,.list false ys,.int .i64 rm,.list false ts]):=by
 refine call_loops sp61_ok Try.func61 Try.ntmps61 (by kernel_rfl) (zR fun p hp=>?_) ((n61 f fr ys ts rm n _).mpr ⟨hs,fun z0 e0 z2 e2=>⟨?_,rfl,f,rfl, ?_⟩⟩)
 ·have e:loopsOf 0 (zC Try.f61)=[zP Try.f61 0]:=by kernel_rfl
  rw [e] at hp
  simp only [List.mem_cons,List.not_mem_nil,or_false] at hp
  subst hp
  exact zU lp61
 ·rw [e2];split<;>omega
 ·rw [e2,e0]
theorem b61_ok (args:List V) (k:V→Prop) (h:b61 args k):∃r,CallP Try.prog 61 args r∧k r:=by
 unfold b61 at h
 split at h
 ·obtain ⟨f,rfl,hs,hk⟩:=h
  exact ⟨_,c61 _ _ _ _ _ _ hs,hk _ rfl⟩
 ·exact h.elim
theorem drop_getV {xs:List V} {i:Int} (h0:0≤i) (h1:i<xs.length):xs.drop i.toNat=getV xs i::xs.drop (i+1).toNat:=by
 have h:i.toNat<xs.length:=by omega
 rw [List.drop_eq_getElem_cons h,show (i+1).toNat=i.toNat+1 by omega]
 simp [getV,List.getD,h]
theorem getV_mem {xs:List V} {i:Int} (h0:0≤i) (h1:i<xs.length):getV xs i∈xs:=by
 have h:i.toNat<xs.length:=by omega
 simp [getV,List.getD,h]
theorem klsG {xs:List V} (hx:KLs xs) {i:Int} (h0:0≤i) (h1:i<xs.length):∃m a:Int,getV xs i=.agg [.int .i64 m,.int .i64 a]:=hx _ (getV_mem h0 h1)
theorem drop_end {xs:List V} {i:Int} (h1:¬i<xs.length):xs.drop i.toNat=[]:=List.drop_eq_nil_of_le (by omega)
theorem sp75_ok:SpOk Try.prog sp75:=zA b72_ok (zA b65_ok zD)
theorem lp75:LsOk Try.prog 30 1013 [15,16,17] [] ent75 (zP Try.f75 0).2:=by
 intro vs ks1 K h
 unfold ent75 at h
 split at h
 ·rename_i _ xs n i
  obtain ⟨rfl,rfl,hb,hx,hK1,hK2⟩:=h
  refine zT (hints:=zB) (prs:=zO []) (Ls:=noLs) sp75_ok ends75_0 (γ:=Int) (fun g=>[.list false xs,.int .i64 xs.length,.int .i64 g]) (fun g=>[]) (fun g=>(xs.length-g).toNat)
   (fun g=>0≤g∧(goods (xs.drop g.toNat)=true→K (.exit 0) 1013 [] [])∧(goods (xs.drop g.toNat)=false→K .ret 1013 [(4,.gd true (.bool false))] [])) K (zK (by kernel_rfl)) ?_ 0 ⟨Int.le_refl _,by simpa using hK1,by simpa using hK2⟩
  rintro i ⟨h0,hE,hR⟩
  refine (nl75_0 xs _ i _ _ _).mpr ?_
  intro x0 hx0;subst hx0
  refine ⟨fun h=>?_,fun h=>?_⟩
  ·simp only [decide_eq_true_eq] at h
   obtain ⟨m,a,e1⟩:=klsG hx h0 h
   rw [drop_getV h0 h,e1] at hE hR
   simp only [goods] at hE hR
   have nx:goodK m a=true→∃g':Int,([.list false xs,.int .i64 (xs.length:Int),.int .i64 (i+1)]:List V)=[.list false xs,.int .i64 (xs.length:Int),.int .i64 g']∧([]:List Blk)=[]∧(xs.length-g').toNat<(xs.length-i).toNat∧0≤g'∧(goods (xs.drop g'.toNat)=true→K (.exit 0) 1013 [] [])∧(goods (xs.drop g'.toNat)=false→K .ret 1013 [(4,.gd true (.bool false))] []):=fun hg=>by
    rw [hg] at hE hR
    exact ⟨i+1,rfl,rfl,by omega,by omega,by simpa using hE,by simpa using hR⟩
   refine ⟨h0,h,m,a,e1,fun hp x e=>?_,fun hp x9 e9=>?_⟩
   ·rw [wrap_le h0 (by omega)] at e;subst e
    exact nx (by simp [goodK,hp])
   ·subst e9
    refine ⟨fun h88 x e=>?_,fun h88=>?_⟩
    ·rw [wrap_le h0 (by omega)] at e;subst e
     exact nx (by simp only [goodK,hp];exact h88)
    ·refine hR ?_
     have:goodK m a=false:=by simp only [goodK,hp];exact h88
     rw [this];rfl
  ·simp only [decide_eq_false_iff_not] at h
   rw [drop_end h] at hE
   exact hE rfl
 ·exact h.elim
theorem arr_kls (f:Nat→Int×Int):KLs (arrF 16 f):=by
 intro v hv
 simp only [arrF,List.mem_map] at hv
 obtain ⟨i,_,rfl⟩:=hv
 exact ⟨_,_,rfl⟩
theorem kls_take {xs:List V} (h:KLs xs) (n:Nat):KLs (xs.take n):=fun v hv=>h v (List.mem_of_mem_take hv)
theorem c75 (f:Nat→Int×Int) (fr:Bool) (ys ts:List V) (rm n:Int):CallP Try.prog 75 [.agg [.agg (arrF 16 f),.bool fr,.list false ys,.int .i64 rm,.list false ts],.int .i64 n] (.bool (liveB f n)):=by
 refine call_loops sp75_ok Try.func75 Try.ntmps75 (by kernel_rfl) (zR fun p hp=>?_) ((n75 f fr ys ts rm n _).mpr ?_)
 ·have e:loopsOf 0 (zC Try.f75)=[zP Try.f75 0]:=by kernel_rfl
  rw [e] at hp
  simp only [List.mem_cons,List.not_mem_nil,or_false] at hp
  subst hp
  exact zU lp75
 ·intro x0 e0;subst e0
  refine ⟨fun h=>by simp only [liveB,h,if_true],fun h x4 e4=>?_⟩
  subst e4
  refine ⟨fun h9004=>by simp only [liveB,h,h9004,if_true];rfl,fun h9004=>?_⟩
  have h':0≤n:=by simpa using h
  have h4':n≤16:=by simpa using h9004
  refine ⟨h',h4',fun ys8 e8 _ x11 e11=>?_⟩
  have el:liveB f n=goods ys8:=by rw [e8];simp only [liveB,h,h9004];rfl
  have hlen:ys8.length≤100000:=by rw [e8];simp [arr_len];omega
  refine ⟨rfl,e11,hlen,by rw [e8];exact kls_take (arr_kls f) _,fun h=>by rw [el,h],fun h=>by rw [el,h]⟩
theorem b75_ok (args:List V) (k:V→Prop) (h:b75 args k):∃r,CallP Try.prog 75 args r∧k r:=by
 unfold b75 at h
 split at h
 ·obtain ⟨f,rfl,hk⟩:=h
  exact ⟨_,c75 _ _ _ _ _ _,hk⟩
 ·exact h.elim
theorem sp92_ok:SpOk Try.prog sp92:=zA b87_ok zD
theorem lp92:LsOk Try.prog 19 1004 [0,1,7,8] [] ent92 (zP Try.f92 0).2:=by
 intro vs ks1 K h
 unfold ent92 at h
 split at h
 ·rename_i _ ys n i
  obtain ⟨rfl,rfl,hb,hy,hK1,hK2⟩:=h
  refine zT (hints:=zB) (prs:=zO []) (Ls:=noLs) sp92_ok ends92_0 (γ:=Int) (fun g=>[.list false ys,.fn 87 [],.int .i64 ys.length,.int .i64 g]) (fun g=>[]) (fun g=>(ys.length-g).toNat)
   (fun g=>0≤g∧idxF (ys.drop g.toNat) g=idxF ys 0) K (zK (by kernel_rfl)) ?_ 0 ⟨Int.le_refl _,by simp⟩
  rintro i ⟨h0,hI⟩
  refine (nl92_0 ys _ i _ _ _).mpr ?_
  intro x0 hx0;subst hx0
  refine ⟨fun h=>?_,fun h=>?_⟩
  ·simp only [decide_eq_true_eq] at h
   obtain ⟨m,a,e1⟩:=klsG hy h0 h
   rw [drop_getV h0 h,e1] at hI
   simp only [idxF] at hI
   refine ⟨h0,h,m,a,e1,fun h91=>?_,fun h91 x e=>?_⟩
   ·rw [if_pos h91] at hI
    rw [hI]
    exact hK2 (by rw [←hI];exact h0)
   ·rw [wrap_le h0 (by omega)] at e;subst e
    rw [if_neg (by rw [h91];decide)] at hI
    exact ⟨i+1,rfl,rfl,by show (ys.length-(i+1)).toNat<(ys.length-i).toNat;omega,by show 0≤i+1;omega,hI⟩
  ·simp only [decide_eq_false_iff_not] at h
   rw [drop_end h] at hI
   exact hK1 hI.symm
 ·exact h.elim
theorem c92 (ys:List V) (hy:KLs ys) (hb:ys.length≤100000):CallP Try.prog 92 [.list false ys,.fn 87 []] (.int .i64 (idxF ys 0)):=by
 refine call_loops sp92_ok Try.func92 Try.ntmps92 (by kernel_rfl) (zR fun p hp=>?_) ((n92 ys _).mpr ?_)
 ·have e:loopsOf 0 (zC Try.f92)=[zP Try.f92 0]:=by kernel_rfl
  rw [e] at hp
  simp only [List.mem_cons,List.not_mem_nil,or_false] at hp
  subst hp
  exact zU lp92
 ·intro _ x1 e1
  exact ⟨rfl,e1,hb,hy,fun h=>by rw [h],fun h=>rfl⟩
theorem b92_ok (args:List V) (k:V→Prop) (h:b92 args k):∃r,CallP Try.prog 92 args r∧k r:=by
 unfold b92 at h
 split at h
 ·obtain ⟨h1,h2,hk⟩:=h
  exact ⟨_,c92 _ h1 h2,hk⟩
 ·exact h.elim
theorem sp86_ok:SpOk Try.prog sp86:=zA b92_ok zD
theorem c86 (ys:List V) (hy:KLs ys) (hb:ys.length≤100000):CallP Try.prog 86 [.list false ys,.fn 87 []] (.bool (decide (idxF ys 0≥0))):=by
 refine zJ sp86_ok Try.func86 Try.ntmps86 (by kernel_rfl) ((n86 ys _).mpr ⟨hy,hb,fun x e=>by rw [e]⟩)
theorem b86_ok (args:List V) (k:V→Prop) (h:b86 args k):∃r,CallP Try.prog 86 args r∧k r:=by
 unfold b86 at h
 split at h
 ·obtain ⟨h1,h2,hk⟩:=h
  exact ⟨_,c86 _ h1 h2,hk⟩
 ·exact h.elim
theorem sp59_ok:SpOk Try.prog sp59:=zA b86_ok zD
theorem c59 (f:Nat→Int×Int) (fr:Bool) (ys ts:List V) (rm:Int) (hy:KLs ys) (hb:ys.length≤1000):CallP Try.prog 59 [.agg [.agg (arrF 16 f),.bool fr,.list false ys,.int .i64 rm,.list false ts]] (.bool (readyB fr ys)):=by
 refine zJ sp59_ok Try.func59 Try.ntmps59 (by kernel_rfl) ((n59 f fr ys ts rm _).mpr ?_)
 intro x0 e0;subst e0
 refine ⟨fun h=>?_,fun h=>⟨hy,by omega,fun x e=>?_⟩⟩
 ·have:fr=false:=by simpa using h
  subst this;rfl
 ·have:fr=true:=by simpa using h
  subst this;rw [e];rfl
theorem b59_ok (args:List V) (k:V→Prop) (h:b59 args k):∃r,CallP Try.prog 59 args r∧k r:=by
 unfold b59 at h
 split at h
 ·obtain ⟨⟨⟨f,rfl⟩,h1,h2,h9003,h9004⟩,hk⟩:=h
  exact ⟨_,c59 _ _ _ _ _ h1 h2,hk⟩
 ·exact h.elim
theorem arr_ids (f:Nat→Int×Int):V.idsBs (arrF 16 f)=[]:=rfl
theorem c40H (f:Nat→Int×Int) (fr:Bool) (ys ts:List V) (rm:Int) (h1:KLs ys) (h2:ys.length≤1000) (h9003:NLs ts) (h9004:ts.length≤1000):CallH Try.prog 40 [.agg [.agg (arrF 16 f),.bool fr,.list false ys,.int .i64 rm,.list false ts]] (lkB []) (.agg [.agg (arrF 16 f),.bool fr,.sl 1005 ys.length,.int .i64 rm,.list false ts]) (lkB [(1005,⟨some 52,false,.agg ys⟩)]):=by
 refine callHc_go (η:=[]) (ids:=[1005]) (ks:=[⟨some 52,false,.agg ys⟩]) (hint:=none) (Ls:=noLs) (hints:=hintOf [(6999,1014)]) (prs:=zO []) (N:=26) sp40_ok Try.func40 Try.ntmps40 (by kernel_rfl) (zK (by kernel_rfl)) ?_
 refine (n40h f fr ys ts rm _ _).mpr ?_
 intro _ x1 e1;subst e1
 refine ⟨⟨by omega,by omega,by omega,by omega,rfl⟩,fun _=>⟨⟨by simp,rfl,rfl,trivial,kls_sz h1,(fun _=>by simp),(fun _=>by simp)⟩,fun _ x9 _ _ x12 e12=>?_⟩⟩
 subst e12
 refine ⟨⟨by omega,by omega,by omega,by omega,rfl⟩,fun _=>⟨⟨by simp,rfl,rfl,trivial,nls_sz h9003,(fun _=>by simp),(fun _=>by simp)⟩,fun _ x20 _=>⟨?_, ?_, ?_⟩⟩⟩
 ·rw [cpy];simp
 ·rw [cpy];simp
 ·rw [cpy]
theorem h40_ok:HOk Try.prog 40 h40:=by
 intro hvc rest H1 id k h
 unfold h40 at h
 split at h
 ·rename_i X fr ys rm ts
  obtain ⟨⟨⟨f,rfl⟩,h1,h2,h9003,h9004⟩,hk⟩:=h
  exact ⟨_,_,hsem_new (m:=1005) rfl (fun j hj=>by simpa [V.idsB,V.idsBs,arr_ids] using hj) (c40H f fr ys ts rm h1 h2 h9003 h9004),hk ys rfl⟩
 ·exact h.elim
theorem sub_one {ys:List V} {n:Nat} (h:n<ys.length):subQ (.agg ys) [n]=some ys[n]:=by
 simp [subQ,V.sub,h]
theorem off_one {ys:List V} (hy:KLs ys) {n:Nat} (h:n<ys.length):offQ (.agg ys) [n]=n*2:=by
 have e:ys[n]? =some ys[n]:=by simp [h]
 simp only [offQ,V.off,e]
 rw [szs_const (z:=2) (fun v hv=>kls_sz hy v (List.mem_of_mem_take hv)),List.length_take]
 omega
theorem upd_one {ys:List V} {x:V} {n:Nat} (h:n<ys.length):updQ x (.agg ys) [n]=.agg (ys.set n x):=by
 have e:ys[n]? =some ys[n]:=by simp [h]
 simp only [updQ,V.upd,e]
theorem slotB_iff {fr:Bool} {ys:List V} {n:Int} (h:slotB fr ys n=true):fr=true∧0≤n∧n<ys.length:=by
 unfold slotB at h
 cases fr with
 |false=>cases h
 |true=>
  simp only [if_true] at h
  split at h
  ·rename_i h1
   exact ⟨rfl,by simpa using h1,by simpa using h⟩
  ·cases h
theorem sp91_ok:SpOk Try.prog sp91:=zH h40_ok (zA b93_ok (zA b65_ok zD))
theorem put_y (f:Nat→Int×Int) (fr:Bool) (ys ts:List V) (rm n m a:Int) (r:V) (hs:SOk (arrF 16 f) ys ts) (hr:r=.tup [.agg [.agg (arrF 16 f),.bool fr,.list false (if putOk fr ys n=true then putY ys n m a else ys),.int .i64 rm,.list false ts],.bool (putOk fr ys n)]):
  SOk (arrF 16 f) ys ts∧(slotB fr ys n=true→0≤n∧n<↑(List.length ys)∧∃n15 n33,getV ys n=V.agg [V.int IntKind.i64 n15,V.int IntKind.i64 n33]∧∀(x20:Int),x20=bits BinOp.and IntKind.i64 (meet n15 n33 (-1)).1 256→∀(x22:Bool),x22=(x20==0)→
   (x22=true→SOk (arrF 16 f) ys ts∧∀(zs25:List V),zs25=ys→List.length zs25=List.length zs25∧0≤n∧n<↑(List.length zs25)∧some 2=some 2∧List.length zs25=List.length zs25∧[Int.toNat n]≠[]∧offQ (V.agg zs25) [Int.toNat n]=Int.toNat n*2∧
    (∃u27,subQ (V.agg zs25) [Int.toNat n]=some u27∧V.sz (V.agg [V.int IntKind.i64 (meet m a (-1)).1,V.int IntKind.i64 (meet m a (-1)).2])=V.sz u27∧V.sz (V.agg [V.int IntKind.i64 (meet m a (-1)).1,V.int IntKind.i64 (meet m a (-1)).2])=V.sz u27)∧
    ∃rows'28,V.agg rows'28=updQ (V.agg [V.int IntKind.i64 (meet m a (-1)).1,V.int IntKind.i64 (meet m a (-1)).2]) (V.agg zs25) [Int.toNat n]∧List.length zs25=List.length rows'28∧r=V.tup [V.agg [V.agg (arrF 16 f),V.bool fr,V.list false rows'28,V.int IntKind.i64 rm,V.list false ts],V.bool true])∧
   (x22=false→r=V.tup [V.agg [V.agg (arrF 16 f),V.bool fr,V.list false ys,V.int IntKind.i64 rm,V.list false ts],V.bool false]))∧
  (slotB fr ys n=false→r=V.tup [V.agg [V.agg (arrF 16 f),V.bool fr,V.list false ys,V.int IntKind.i64 rm,V.list false ts],V.bool false]):=by
 refine ⟨hs,fun h=>?_,fun h=>?_⟩
 ·obtain ⟨hfr,h0,h1⟩:=slotB_iff h
  obtain ⟨p,q,e⟩:=klsG hs.2.1 h0 h1
  have hok:putOk fr ys n=maskOk (getV ys n):=by simp only [putOk,h,if_true]
  rw [e] at hok
  refine ⟨h0,h1,p,q,e,fun x2 e2 x3 e3=>⟨fun h9003=>?_,fun h9003=>?_⟩⟩
  ·have hp:putOk fr ys n=true:=by rw [hok];simp only [maskOk];rw [←e2,←e3];exact h9003
   refine ⟨hs,fun zs ez=>?_⟩
   subst ez
   have hlt:n.toNat<zs.length:=by omega
   refine ⟨rfl,h0,h1,rfl,rfl,by simp,off_one hs.2.1 hlt,⟨_,sub_one hlt, ?_, ?_⟩,zs.set n.toNat _,(upd_one hlt).symm,by simp, ?_⟩
   ·exact (kls_sz hs.2.1 _ (List.getElem_mem hlt)).symm
   ·exact (kls_sz hs.2.1 _ (List.getElem_mem hlt)).symm
   ·rw [hr,hp,if_pos rfl];rfl
  ·have hp:putOk fr ys n=false:=by rw [hok];simp only [maskOk];rw [←e2,←e3];exact h9003
   rw [hr,hp,if_neg (by decide)]
 ·have hp:putOk fr ys n=false:=by simp [putOk,h]
  rw [hr,hp,if_neg (by decide)]
theorem c91 (f:Nat→Int×Int) (fr:Bool) (ys ts:List V) (rm tg n m a:Int) (ls:List V) (hs:SOk (arrF 16 f) ys ts):CallP Try.prog 91 [.agg [.agg (arrF 16 f),.bool fr,.list false ys,.int .i64 rm,.list false ts],.agg [.int .i64 tg,.int .i64 n,.list false ls],.agg [.int .i64 m,.int .i64 a]]
  (.tup [.agg [.agg (arrF 16 (putF f tg n m a)),.bool fr,.list false (putZ fr ys tg n m a),.int .i64 rm,.list false ts],.bool (putO fr ys tg n)]):=by
 have key:(tg==4)=true→inX tg n=false→V.tup [.agg [.agg (arrF 16 (putF f tg n m a)),.bool fr,.list false (putZ fr ys tg n m a),.int .i64 rm,.list false ts],.bool (putO fr ys tg n)]=.tup [.agg [.agg (arrF 16 f),.bool fr,.list false (if putOk fr ys n=true then putY ys n m a else ys),.int .i64 rm,.list false ts],.bool (putOk fr ys n)]:=by
  intro h9004 hx
  simp only [putF,putZ,putO,hx,h9004,if_true,if_false,Bool.false_eq_true]
 have key2:(tg==4)=false→inX tg n=false→V.tup [.agg [.agg (arrF 16 (putF f tg n m a)),.bool fr,.list false (putZ fr ys tg n m a),.int .i64 rm,.list false ts],.bool (putO fr ys tg n)]=.tup [.agg [.agg (arrF 16 f),.bool fr,.list false ys,.int .i64 rm,.list false ts],.bool false]:=by
  intro h9004 hx
  simp only [putF,putZ,putO,hx,h9004,if_true,if_false,Bool.false_eq_true]
 refine zJ sp91_ok Try.func91 Try.ntmps91 (by kernel_rfl) ((n91 f fr ys ts rm tg n m a ls _).mpr ?_)
 intro x0 e0;subst e0
 refine ⟨fun h9003=>?_,fun h9003=>?_⟩
 ·intro x3 e3;subst e3
  refine ⟨fun h0=>?_,fun h0=>?_⟩
  ·intro x6 e6;subst e6
   refine ⟨fun h8=>⟨hs,fun zs ez=>?_⟩,fun h8=>?_⟩
   ·subst ez
    have hn0:0≤n:=by simpa using h0
    have hn1:n<16:=by simpa using h8
    have hx:inX tg n=true:=by simp only [inX,h9003,h0,h8,if_true]
    refine ⟨hn0,hn1,offP hn0 hn1,subP rfl hn0 hn1,_,updP hn0 hn1,rfl, ?_⟩
    simp only [putF,putZ,putO,hx,if_true]
   ·have hx:inX tg n=false:=by simp only [inX,h9003,h0,h8,if_true,if_false]
    intro x14 e14;subst e14
    exact ⟨fun h9004=>put_y f fr ys ts rm n m a _ hs (key h9004 hx),fun h9004=>key2 h9004 hx⟩
  ·have hx:inX tg n=false:=by simp only [inX,h9003,h0,if_true,if_false];simp
   intro x14 e14;subst e14
   exact ⟨fun h9004=>put_y f fr ys ts rm n m a _ hs (key h9004 hx),fun h9004=>key2 h9004 hx⟩
 ·have hx:inX tg n=false:=by simp only [inX,h9003];simp
  intro x14 e14;subst e14
  exact ⟨fun h9004=>put_y f fr ys ts rm n m a _ hs (key h9004 hx),fun h9004=>key2 h9004 hx⟩
theorem b91_ok (args:List V) (k:V→Prop) (h:b91 args k):∃r,CallP Try.prog 91 args r∧k r:=by
 unfold b91 at h
 split at h
 ·obtain ⟨hs,f,rfl,hk⟩:=h
  exact ⟨_,c91 _ _ _ _ _ _ _ _ _ _ hs,hk _ rfl _ rfl _ rfl⟩
 ·exact h.elim
theorem sp94_ok:SpOk Try.prog sp94:=zA b64_ok zD
theorem c94 (K N:Int) (nb:Bool) (l ks:List V) (q:List UInt8):CallP Try.prog 94 [.agg [.int .i64 K,.agg [.bool nb,.list false l],.str q,.int .i64 N,.list false ks]] (.agg [.int .i64 (kOf K N ks.length).1,.int .i64 (kOf K N ks.length).2]):=by
 refine zJ sp94_ok Try.func94 Try.ntmps94 (by kernel_rfl) ((n94 K N nb l ks q _).mpr ?_)
 intro x0 e0;subst e0
 refine ⟨fun h0 _ x4 e4=>?_,fun h0 x7 e7=>?_⟩
 ·subst e4;simp only [kOf,h0,if_true];rfl
 subst e7
 refine ⟨fun h26=>?_,fun h26 x11 e11=>?_⟩
 ·simp only [kOf,h0,h26,if_true,if_false,Bool.false_eq_true];rfl
 subst e11
 refine ⟨fun h9011=>?_,fun h9011 x15 e15=>?_⟩
 ·simp only [kOf,h0,h26,h9011,if_true,if_false,Bool.false_eq_true];rfl
 subst e15
 refine ⟨fun h75=>?_,fun h75 x19 e19=>?_⟩
 ·simp only [kOf,h0,h26,h9011,h75,if_true,if_false,Bool.false_eq_true];rfl
 subst e19
 have hk:IntKind.i64.wrap (K-1)=K-1:=by
  simp only [decide_eq_false_iff_not] at h9011 h75
  rw [IntKind.wrap_i64];omega
 refine ⟨?_,fun _ x22 e22=>?_⟩
 ·simp only [decide_eq_false_iff_not] at h9011;omega
 ·subst e22;simp only [kOf,h0,h26,h9011,h75,if_true,if_false,Bool.false_eq_true]
theorem b94_ok (args:List V) (k:V→Prop) (h:b94 args k):∃r,CallP Try.prog 94 args r∧k r:=by
 unfold b94 at h
 split at h
 ·exact ⟨_,c94 _ _ _ _ _ _,h⟩
 ·exact h.elim
theorem sp88_ok:SpOk Try.prog sp88:=zA b65_ok (zA b93_ok (zA b30_ok (zA b94_ok zD)))
theorem c88 (f:Nat→Int×Int) (fr:Bool) (ys ts:List V) (rm tg n:Int) (ls ms:List V) (hs:SOk (arrF 16 f) ys ts) (hm:LitL ms):CallP Try.prog 88 [.agg [.agg (arrF 16 f),.bool fr,.list false ys,.int .i64 rm,.list false ts],.agg [.int .i64 tg,.int .i64 n,.list false ls],.list false ms]
  (.agg [.int .i64 (srcS f fr ys ms tg n).1,.int .i64 (srcS f fr ys ms tg n).2]):=by
 refine zJ sp88_ok Try.func88 Try.ntmps88 (by kernel_rfl) ((n88 f fr ys ts rm tg n ls ms _).mpr ?_)
 intro x0 e0;subst e0
 refine ⟨fun h9003 x3 e3=>?_,fun h9003 x14 e14=>?_⟩
 ·subst e3
  refine ⟨fun h0 x6 e6=>?_,fun h0=>by simp only [srcS,h9003,h0,if_true,if_false,Bool.false_eq_true]⟩
  subst e6
  refine ⟨fun h8=>?_,fun h8=>by simp only [srcS,h9003,h0,h8,if_true,if_false,Bool.false_eq_true]⟩
  have hn0:0≤n:=by simpa using h0
  have hn1:n<16:=by simpa using h8
  refine ⟨hn0,hn1,(f n.toNat).1,(f n.toNat).2, ?_, ?_,by simp only [srcS,h9003,h0,h8,if_true,if_false,Bool.false_eq_true]⟩
  ·have:=sub_arr f (j:=n.toNat) (by omega)
   simpa [subQ,V.sub] using this
  ·have:=off_arr f (j:=n.toNat) (by omega)
   have e:offQ (V.agg [V.agg (arrF 16 f),V.bool fr,V.list false ys,V.int IntKind.i64 rm,V.list false ts]) [0,n.toNat]=V.szs []+offQ (.agg (arrF 16 f)) [n.toNat]:=by
    simp only [offQ];rfl
   rw [e,this];rfl
 subst e14
 refine ⟨fun h9004=>⟨hs,fun h=>?_,fun h=>?_⟩,fun h9004 x22 e22=>?_⟩
 ·obtain ⟨hfr,h0,h1⟩:=slotB_iff h
  obtain ⟨p,q,e⟩:=klsG hs.2.1 h0 h1
  refine ⟨h0,h1,p,q,e, ?_⟩
  have:srcS f fr ys ms tg n=meet p q (-1):=by simp only [srcS,h9003,h9004,srcK,h,if_true,if_false,Bool.false_eq_true,e,saidV]
  rw [this]
 ·have:srcS f fr ys ms tg n=(0,-1):=by simp only [srcS,h9003,h9004,srcK,h,if_true,if_false,Bool.false_eq_true]
  rw [this]
 subst e22
 refine ⟨fun h1=>by simp only [srcS,h9003,h9004,h1,if_true,if_false,Bool.false_eq_true],fun h1 x26 e26=>?_⟩
 subst e26
 refine ⟨fun h2 x29 e29=>⟨fun h=>?_,fun h=>?_⟩,fun h2 x34 e34=>?_⟩
 ·subst e29;simp only [srcS,h9003,h9004,h1,h2,h,if_true,if_false,Bool.false_eq_true]
 ·subst e29;simp only [srcS,h9003,h9004,h1,h2,h,if_true,if_false,Bool.false_eq_true]
 subst e34
 refine ⟨fun h8 x37 e37=>?_,fun h8=>by simp only [srcS,h9003,h9004,h1,h2,h8,if_true,if_false,Bool.false_eq_true]⟩
 subst e37
 refine ⟨fun h0 _ x41 e41 x43 e43=>?_,fun h0=>by simp only [srcS,h9003,h9004,h1,h2,h8,h0,if_true,if_false,Bool.false_eq_true]⟩
 subst e41 e43
 refine ⟨fun h26=>?_,fun h26=>by simp only [srcS,h9003,h9004,h1,h2,h8,h0,h26,if_true,if_false,Bool.false_eq_true]⟩
 have hn0:0≤n:=by simpa using h0
 have hn1:n<ms.length:=by simpa using h26
 have hlt:n.toNat<ms.length:=by omega
 obtain ⟨K,nb,l,q,N,ks,e⟩:=hm (getV ms n) (by
  have:getV ms n=ms[n.toNat]:=by simp [getV,List.getD,hlt]
  rw [this];exact List.getElem_mem hlt)
 refine ⟨hn0,hn1,K,nb,l,q,N,ks,e, ?_⟩
 simp only [srcS,h9003,h9004,h1,h2,h8,h0,h26,if_true,if_false,Bool.false_eq_true,e,kOfV]
theorem b88_ok (args:List V) (k:V→Prop) (h:b88 args k):∃r,CallP Try.prog 88 args r∧k r:=by
 unfold b88 at h
 split at h
 ·obtain ⟨hm,hs,f,rfl,hk⟩:=h
  exact ⟨_,c88 _ _ _ _ _ _ _ _ _ hs hm,hk _ rfl⟩
 ·exact h.elim
end GoL
