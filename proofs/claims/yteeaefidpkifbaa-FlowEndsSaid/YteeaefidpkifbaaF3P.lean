/- A part of the proof: a logic proved sound over the model; contracts; plain laws. -/
import Derived.Test.YteeaefidpkifbaaF3N
set_option linter.all false
open Go Go.Proofs
namespace GoL
set_option maxRecDepth 8000
attribute [local irreducible] wC
theorem sp41_ok:SpOk Try.prog sp41:=zA b63_ok (zA b64_ok (zD))
theorem c41 (m a n b:Int):CallP Try.prog 41 [.agg [.int .i64 m,.int .i64 a],.agg [.int .i64 n,.int .i64 b]] (.agg [.int .i64 (uM m a n b).1,.int .i64 (uM m a n b).2]):=by
 refine zJ sp41_ok Try.func41 Try.ntmps41 (by kernel_rfl) ((n41 m a n b _).mpr ?_)
 (repeat' (first|(refine And.intro ?_ ?_)|(intro x hx;subst hx)|(intro _)))<;>(first|exact se25|rfl|(simp only [uM,m00, *,if_true,if_false,Bool.false_eq_true,cond_true,cond_false,↓reduceIte];done)|(simp only [uM,m00, *,if_true,if_false,Bool.false_eq_true,cond_true,cond_false,↓reduceIte];first|rfl|(simp;done))|skip)
theorem b41_ok (args:List V) (k:V→Prop) (h:b41 args k):∃r,CallP Try.prog 41 args r∧k r:=by
 unfold b41 at h
 split at h
 ·exact ⟨_,c41 _ _ _ _,h⟩
 ·exact h.elim
theorem off_arr0 (f:Nat→Int×Int) (r:List V) {j:Nat} (h:j<16):offQ (.agg (.agg (arrF 16 f)::r)) [0,j]=0+j*2:=by
 have:=off_arr f h
 simp only [offQ] at this ⊢
 simp only [V.off,List.getElem?_cons_zero,List.take_zero,V.szs] at this ⊢
 exact (congrArg (0+·) this)
theorem sub_arr0 (f:Nat→Int×Int) (r:List V) {j:Nat} (h:j<16):subQ (.agg (.agg (arrF 16 f)::r)) [0,j]=some (.agg [.int .i64 (f j).1,.int .i64 (f j).2]):=by
 have:=sub_arr f h
 simp only [subQ] at this ⊢
 simp only [V.sub,List.getElem?_cons_zero] at this ⊢
 exact this
theorem offP0 {f:Nat→Int×Int} {r:List V} {i:Int} (h0:0≤i) (h1:i<16):offQ (.agg (.agg (arrF 16 f)::r)) [0,Int.toNat i]=0+Int.toNat i*2:=off_arr0 f r (by omega)
theorem subP0 {f:Nat→Int×Int} {r:List V} {i:Int} (h0:0≤i) (h1:i<16):subQ (.agg (.agg (arrF 16 f)::r)) [0,Int.toNat i]=some (.agg [.int .i64 (f i.toNat).1,.int .i64 (f i.toNat).2]):=sub_arr0 f r (by omega)
theorem nls_get2 {xs:List V} (hx:NLs xs) {i:Int} (h0:0≤i) (h1:i<xs.length):∃m:Int,getV xs i=.int .i64 m:=hx _ (getV_mem h0 h1)
theorem sp39_ok:SpOk Try.prog sp39:=zD
theorem lp39:LsOk Try.prog 26 1009 [0,1,12,13] [] ent39 (zP Try.f39 0).2:=by
 intro vs ks1 K h
 unfold ent39 at h
 split at h
 ·rename_i xs ys n i
  obtain ⟨rfl,rfl,hl,hb,hx,hy,hK1,hK2⟩:=h
  refine zT (hints:=zB) (prs:=zN Try.f39) (Ls:=noLs) sp39_ok ends39_0 (γ:=Int) (fun g=>[.list false xs,.list false ys,.int .i64 xs.length,.int .i64 g]) (fun g=>[]) (fun g=>(xs.length-g).toNat)
   (fun g=>0≤g∧(uT (xs.drop g.toNat) (ys.drop g.toNat)=true→K (.exit 0) 1009 [] [])∧(uT (xs.drop g.toNat) (ys.drop g.toNat)=false→K .ret 1009 [(4,.gd true (.bool false))] [])) K (zK (by kernel_rfl)) ?_ 0 ⟨Int.le_refl _,by simpa using hK1,by simpa using hK2⟩
  rintro i ⟨h0,hE,hR⟩
  refine (nl39_0 xs ys _ i _ _ _).mpr ?_
  intro x0 hx0;subst hx0
  refine ⟨fun h=>?_,fun h=>?_⟩
  ·simp only [decide_eq_true_eq] at h
   have h':i<ys.length:=by omega
   obtain ⟨m,e1⟩:=nls_get2 hx h0 h
   obtain ⟨n,e2⟩:=nls_get2 hy h0 h'
   rw [drop_getV h0 h,drop_getV h0 h',e1,e2] at hE hR
   simp only [uT] at hE hR
   refine ⟨h0,h,m,e1,h0,h',n,e2,fun x7 e7=>?_⟩
   subst e7
   refine ⟨fun h91=>?_,fun h91 x e=>?_⟩
   ·have h91:(m==n)=false:=by simpa using h91
    exact hR (by rw [h91];rfl)
   ·have h91:(m==n)=true:=by simpa using h91
    rw [wrap_le h0 (by omega)] at e;subst e
    rw [h91] at hE hR
    refine ⟨i+1,rfl,rfl,by show (xs.length-(i+1)).toNat<(xs.length-i).toNat;omega,by show 0≤i+1;omega,by simpa using hE,by simpa using hR⟩
  ·simp only [decide_eq_false_iff_not] at h
   rw [drop_end h,drop_end (by omega)] at hE
   exact hE rfl
 ·exact h.elim
theorem eqNs_len:∀{xs ys:List V},NLs xs→NLs ys→xs.length≠ys.length→uT xs ys=false
 |[],[],_,_,h=>absurd rfl h
 |[],y::r,_,_,_=>rfl
 |x::r,[],hx,_,_=>by obtain ⟨n,rfl⟩:=hx x (by simp);rfl
 |x::r,y::q,hx,hy,h=>by
  obtain ⟨n,rfl⟩:=hx x (by simp)
  obtain ⟨m,rfl⟩:=hy y (by simp)
  unfold uT
  split
  ·exact eqNs_len (fun v hv=>hx v (by simp [hv])) (fun v hv=>hy v (by simp [hv])) (by simpa using h)
  ·rfl
theorem eqKs_len:∀{xs ys:List V},KLs xs→KLs ys→xs.length≠ys.length→uW xs ys=false
 |[],[],_,_,h=>absurd rfl h
 |[],y::r,_,_,_=>rfl
 |x::r,[],hx,_,_=>by obtain ⟨n,a,rfl⟩:=hx x (by simp);rfl
 |x::r,y::q,hx,hy,h=>by
  obtain ⟨n,a,rfl⟩:=hx x (by simp)
  obtain ⟨m,b,rfl⟩:=hy y (by simp)
  unfold uW
  rw [eqKs_len (fun v hv=>hx v (by simp [hv])) (fun v hv=>hy v (by simp [hv])) (by simpa using h),Bool.and_false]
theorem ne_len {α:Type} {xs ys:List α}:((xs.length:Int) != (ys.length:Int))=false→xs.length=ys.length:=fun h=>by
 have:(xs.length:Int)=ys.length:=by simpa using h
 omega
theorem c39 (xs ys:List V) (hx:NLs xs) (hy:NLs ys) (hb:xs.length≤100000):CallP Try.prog 39 [.list false xs,.list false ys] (.bool (uT xs ys)):=by
 refine call_loops sp39_ok Try.func39 Try.ntmps39 (by kernel_rfl) (zR fun p hp=>?_) ((n39 xs ys _).mpr ?_)
 ·have e:loopsOf 0 (zC Try.f39)=[zP Try.f39 0]:=by kernel_rfl
  rw [e] at hp
  simp only [List.mem_cons,List.not_mem_nil,or_false] at hp
  subst hp
  exact zU lp39
 ·intro _ x1 e1 _ x4 e4 x6 e6
  subst e1 e4
  refine ⟨fun h=>?_,fun h _ x11 e11=>?_⟩
  ·rw [h] at e6
   rw [eqNs_len hx hy (fun e=>by rw [e] at e6;simp at e6)]
  ·rw [h] at e6
   subst e11
   exact ⟨rfl,rfl,ne_len e6.symm,hb,hx,hy,fun h=>by rw [h],fun h=>by rw [h]⟩
theorem b39_ok (args:List V) (k:V→Prop) (h:b39 args k):∃r,CallP Try.prog 39 args r∧k r:=by
 unfold b39 at h
 split at h
 ·obtain ⟨h1,h2,h3,hk⟩:=h
  exact ⟨_,c39 _ _ h1 h2 h3,hk⟩
 ·exact h.elim
theorem sp42_ok:SpOk Try.prog sp42:=zA b43_ok zD
theorem lp42:LsOk Try.prog 32 1009 [1,2,15,16,17] [] ent42 (zP Try.f42 0).2:=by
 intro vs ks1 K h
 unfold ent42 at h
 split at h
 ·rename_i _ ys xs n i
  obtain ⟨rfl,rfl,hl,hb,hx,hy,hK1,hK2⟩:=h
  refine zT (hints:=zB) (prs:=zN Try.f42) (Ls:=noLs) sp42_ok ends42_0 (γ:=Int) (fun g=>[.list false ys,.fn 43 [],.list false xs,.int .i64 xs.length,.int .i64 g]) (fun g=>[]) (fun g=>(xs.length-g).toNat)
   (fun g=>0≤g∧(uW (xs.drop g.toNat) (ys.drop g.toNat)=true→K (.exit 0) 1009 [] [])∧(uW (xs.drop g.toNat) (ys.drop g.toNat)=false→K .ret 1009 [(6,.gd true (.bool false))] [])) K (zK (by kernel_rfl)) ?_ 0 ⟨Int.le_refl _,by simpa using hK1,by simpa using hK2⟩
  rintro i ⟨h0,hE,hR⟩
  refine (nl42_0 xs ys _ i _ _ _).mpr ?_
  intro x0 hx0;subst hx0
  refine ⟨fun h=>?_,fun h=>?_⟩
  ·simp only [decide_eq_true_eq] at h
   have h':i<ys.length:=by omega
   obtain ⟨m,a,e1⟩:=klsG hx h0 h
   obtain ⟨n,b,e2⟩:=klsG hy h0 h'
   rw [drop_getV h0 h,drop_getV h0 h',e1,e2] at hE hR
   simp only [uW] at hE hR
   refine ⟨h0,h,m,a,e1,h0,h',n,b,e2,fun x7 e7=>?_⟩
   subst e7
   refine ⟨fun h91=>?_,fun h91 x e=>?_⟩
   ·have h91:alikeK m a n b=false:=by simpa using h91
    exact hR (by rw [h91];rfl)
   ·have h91:alikeK m a n b=true:=by simpa using h91
    rw [wrap_le h0 (by omega)] at e;subst e
    rw [h91] at hE hR
    refine ⟨i+1,rfl,rfl,by show (xs.length-(i+1)).toNat<(xs.length-i).toNat;omega,by show 0≤i+1;omega,by simpa using hE,by simpa using hR⟩
  ·simp only [decide_eq_false_iff_not] at h
   rw [drop_end h,drop_end (by omega)] at hE
   exact hE rfl
 ·exact h.elim
theorem c42 (xs ys:List V) (hx:KLs xs) (hy:KLs ys) (hb:xs.length≤100000):CallP Try.prog 42 [.list false xs,.list false ys,.fn 43 []] (.bool (uW xs ys)):=by
 refine call_loops sp42_ok Try.func42 Try.ntmps42 (by kernel_rfl) (zR fun p hp=>?_) ((n42 xs ys _).mpr ?_)
 ·have e:loopsOf 0 (zC Try.f42)=[zP Try.f42 0]:=by kernel_rfl
  rw [e] at hp
  simp only [List.mem_cons,List.not_mem_nil,or_false] at hp
  subst hp
  exact zU lp42
 ·intro _ x1 e1 _ x4 e4 x6 e6
  subst e1 e4
  refine ⟨fun h=>?_,fun h _ x11 e11=>?_⟩
  ·rw [h] at e6
   rw [eqKs_len hx hy (fun e=>by rw [e] at e6;simp at e6)]
  ·rw [h] at e6
   subst e11
   exact ⟨rfl,rfl,ne_len e6.symm,hb,hx,hy,fun h=>by rw [h],fun h=>by rw [h]⟩
theorem b42_ok (args:List V) (k:V→Prop) (h:b42 args k):∃r,CallP Try.prog 42 args r∧k r:=by
 unfold b42 at h
 split at h
 ·obtain ⟨h1,h2,h3,hk⟩:=h
  exact ⟨_,c42 _ _ h1 h2 h3,hk⟩
 ·exact h.elim
theorem sp29_ok:SpOk Try.prog sp29:=zA b39_ok (zA b42_ok zD)
theorem c29 (a b:FS) (ha:SOkS a) (hb:SOkS b):CallP Try.prog 29 [fsV a,fsV b] (.bool (uQ a b)):=by
 obtain ⟨f,fr,ys,rm,ts⟩:=a
 obtain ⟨g,gr,zs,sm,us⟩:=b
 obtain ⟨hy,ly,ht,lt⟩:=ha
 obtain ⟨hz,lz,hu,lu⟩:=hb
 simp only at hy ly ht lt hz lz hu lu
 refine zJ sp29_ok Try.func29 Try.ntmps29 (by kernel_rfl) ((n29 f g fr gr ys zs ts us rm sm _).mpr ?_)
 have hX:∀h:Nat→Int×Int,List.length (arrF 16 h)≤100000:=fun h=>by rw [arr_len];decide
 intro x0 e0
 refine ⟨fun h=>?_,fun h x4 e4=>⟨fun h4=>?_,fun h4=>⟨ht,hu,by omega,fun x8 e8=>⟨fun h8=>?_,fun h8=>⟨fun h9=>⟨hy,hz,by omega,fun x13 e13=>⟨fun h13=>?_,fun h13 p ep q eq=>?_⟩⟩,fun h9=>⟨fun h=>(by cases h),fun _ p ep q eq=>?_⟩⟩⟩⟩⟩⟩
 ·rw [h] at e0
  unfold uQ
  rw [if_pos e0.symm]
 ·rw [h] at e0;rw [h4] at e4
  unfold uQ
  rw [if_neg (by show ¬(fr != gr)=true;rw [←e0];decide),if_pos e4.symm]
 ·rw [h] at e0;rw [h4] at e4;rw [h8] at e8
  unfold uQ
  rw [if_neg (by show ¬(fr != gr)=true;rw [←e0];decide),if_neg (by show ¬(rm != sm)=true;rw [←e4];decide),if_pos (by show uT ts us=false;simpa using e8.symm)]
 ·rw [h] at e0;rw [h4] at e4;rw [h8] at e8;rw [h13] at e13
  unfold uQ
  rw [if_neg (by show ¬(fr != gr)=true;rw [←e0];decide),if_neg (by show ¬(rm != sm)=true;rw [←e4];decide),if_neg (by show ¬uT ts us=false;intro e;rw [e] at e8;cases e8),if_pos (by show (if fr=true then !uW ys zs else false)=true;rw [if_pos h9,←e13])]
 ·rw [h] at e0;rw [h4] at e4;rw [h8] at e8;rw [h13] at e13
  subst ep eq
  refine ⟨arr_kls f,arr_kls g,hX f, ?_⟩
  unfold uQ
  rw [if_neg (by show ¬(fr != gr)=true;rw [←e0];decide),if_neg (by show ¬(rm != sm)=true;rw [←e4];decide),if_neg (by show ¬uT ts us=false;intro e;rw [e] at e8;cases e8),if_neg (by show ¬(if fr=true then !uW ys zs else false)=true;rw [if_pos h9,←e13];decide)]
 ·rw [h] at e0;rw [h4] at e4;rw [h8] at e8
  subst ep eq
  refine ⟨arr_kls f,arr_kls g,hX f, ?_⟩
  unfold uQ
  rw [if_neg (by show ¬(fr != gr)=true;rw [←e0];decide),if_neg (by show ¬(rm != sm)=true;rw [←e4];decide),if_neg (by show ¬uT ts us=false;intro e;rw [e] at e8;cases e8),if_neg (by show ¬(if fr=true then !uW ys zs else false)=true;rw [if_neg (by rw [h9];decide)];decide)]
theorem b29_ok (args:List V) (k:V→Prop) (h:b29 args k):∃r,CallP Try.prog 29 args r∧k r:=by
 unfold b29 at h
 split at h
 ·obtain ⟨f,g,rfl,rfl,h1,h2,hk⟩:=h
  exact ⟨_,c29 _ _ h1 h2,hk⟩
 ·exact h.elim
theorem sp28_ok:SpOk Try.prog sp28:=zH h40_ok (zA b39_ok (zA b41_ok zD))
theorem uL {ys:List V} (h:KLs ys):∀v,List.Mem v ys→V.ids v=[]:=fun v hv=>by obtain ⟨m,a,rfl⟩:=h v hv;rfl
theorem lp28a:LsOk Try.prog 87 1035 [2,3,4,6,38] [1000,1001,1002,1032,1031] ent28a (zP Try.f28 0).2:=by
 intro vs ks1 K h
 unfold ent28a at h
 split at h
 ·rename_i i X fr ys rm ts Y gr zs sm us t2 Z hr k hm hs ws
  obtain ⟨f,g,rfl,rfl,⟨h0,rfl⟩,rfl,rfl,hS,hz,hw,hK⟩:=h
  refine zT (hints:=hintOf [(7004,52),(7008,52),(7012,53),(14015,53)]) (prs:=zN Try.f28) (Ls:=noLs) sp28_ok ends28_0 (γ:=Int×(Nat→Int×Int)) (fun g=>[.ptr 1000 0 [],.ptr 1001 0 [],.ptr 1002 0 [],.ptr 1032 0 [],.int .i64 g.1]) (fun h=>[⟨none,false,.agg [.agg (arrF 16 f),.bool fr,.list false ys,.int .i64 rm,.list false ts]⟩,⟨none,false,.agg [.agg (arrF 16 g),.bool gr,.list false zs,.int .i64 sm,.list false us]⟩,⟨none,false,zS⟩,⟨none,false,.agg [.agg (arrF 16 h.2),.bool hr,.sl 1031 k,.int .i64 hm,.list false hs]⟩,⟨some 52,false,.agg ws⟩]) (fun h=>(16-h.1).toNat)
   (fun h=>0≤h.1∧∀j:Nat,(j:Int)<h.1→h.2 j=tD f g j) K (zK (by kernel_rfl)) ?_ (0,h0) ⟨Int.le_refl _,fun j hj=>by simp only at hj;omega⟩
  rintro ⟨i,h⟩ ⟨hi,hf⟩
  refine (nl28_0 f g fr gr ys zs ts us rm sm h hr ws hs k hm i _ _ _).mpr ?_
  simp only at hi hf
  intro x0 e0;subst e0
  refine ⟨fun hx=>?_,fun hx=>?_⟩
  ·simp only [decide_eq_true_eq] at hx
   refine ⟨hi,hx,_,_,subP0 hi hx,offP0 hi hx,hi,hx,_,_,subP0 hi hx,offP0 hi hx,hi,hx,offP hi hx,subP rfl hi hx,setF h i.toNat (uM (f i.toNat).1 (f i.toNat).2 (g i.toNat).1 (g i.toNat).2),updP hi hx, ?_⟩
   intro x e
   rw [wrap_le hi (by omega)] at e;subst e
   refine ⟨uL hw,(i+1,setF h i.toNat (uM (f i.toNat).1 (f i.toNat).2 (g i.toNat).1 (g i.toNat).2)),rfl,rfl,by show (16-(i+1)).toNat<(16-i).toNat;omega,by show 0≤i+1;omega,fun j hj=>?_⟩
   simp only at hj
   simp only [setF]
   split
   ·rename_i e;subst e;rfl
   ·exact hf j (by omega)
  ·simp only [decide_eq_false_iff_not] at hx
   have e:arrF 16 h=arrF 16 (tD f g):=arr_congr fun k hk=>hf k (by omega)
   rw [e]
   exact ⟨uL hw,hK⟩
 ·exact h.elim
theorem kls_off {ws:List V} (h:KLs ws) {i:Int} (h0:0≤i) (h1:i<ws.length):offQ (.agg ws) [Int.toNat i]=Int.toNat i*2:=by
 have hlt:i.toNat<ws.length:=by omega
 show V.off (.agg ws) [i.toNat]=_
 simp only [V.off,List.getElem?_eq_getElem hlt]
 rw [szs_const (z:=2) (fun v hv=>by obtain ⟨m,a,rfl⟩:=h v (List.mem_of_mem_take hv);rfl),List.length_take]
 omega
theorem kls_sub {ws:List V} (h:KLs ws) {i:Int} {x:V} (hx:x.sz=2) (h0:0≤i) (h1:i<ws.length):∃u,subQ (.agg ws) [Int.toNat i]=some u∧x.sz=u.sz∧x.sz=u.sz:=by
 have hlt:i.toNat<ws.length:=by omega
 refine ⟨ws[i.toNat], ?_, ?_, ?_⟩
 ·show V.sub (.agg ws) [i.toNat]=_
  simp only [V.sub,List.getElem?_eq_getElem hlt]
 ·obtain ⟨m,a,e⟩:=h ws[i.toNat] (by simp)
  rw [e,hx];rfl
 ·obtain ⟨m,a,e⟩:=h ws[i.toNat] (by simp)
  rw [e,hx];rfl
theorem kls_upd {ws:List V} {i:Int} (x:V) (h0:0≤i) (h1:i<ws.length):V.agg (ws.set i.toNat x)=updQ x (.agg ws) [Int.toNat i]:=by
 have hlt:i.toNat<ws.length:=by omega
 show _=V.upd x (.agg ws) [i.toNat]
 simp only [V.upd,List.getElem?_eq_getElem hlt]
theorem take_set {ws:List V} {n:Nat} (x:V) (h:n<ws.length):(ws.set n x).take (n+1)=ws.take n++[x]:=by
 rw [List.set_eq_take_append_cons_drop,if_pos h,List.take_append,List.take_of_length_le (by simp;omega)]
 have e:n+1-(ws.take n).length=1:=by simp;omega
 rw [e];rfl
theorem lp28b:LsOk Try.prog 87 1042 [2,3,4,6,60,61] [1000,1001,1002,1032,1031] ent28b (zP Try.f28 1).2:=by
 intro vs ks1 K h
 unfold ent28b at h
 split at h
 ·rename_i n i X fr ys rm ts Y gr zs sm us t2 Z hr q hm hs ws
  obtain ⟨f,g,h0,rfl,rfl,rfl,rfl,rfl,hS,hz,hw,hq⟩:=h
  split at hq
  ·obtain ⟨rfl,hK⟩:=hq
   refine zT (hints:=hintOf [(7004,52),(7008,52),(7012,53),(14015,53)]) (prs:=zN Try.f28) (Ls:=noLs) sp28_ok ends28_2 (γ:=Unit) (fun g=>[.ptr 1000 0 [],.ptr 1001 0 [],.ptr 1002 0 [],.ptr 1032 0 [],.int .i64 0,.int .i64 0]) (fun h=>[⟨none,false,.agg [.agg (arrF 16 f),.bool fr,.list false ys,.int .i64 rm,.list false ts]⟩,⟨none,false,.agg [.agg (arrF 16 g),.bool gr,.list false zs,.int .i64 sm,.list false us]⟩,⟨none,false,zS⟩,⟨none,false,.agg [.agg (arrF 16 h0),.bool hr,.nils,.int .i64 hm,.list false hs]⟩,⟨some 52,false,.agg ws⟩]) (fun _=>0)
    (fun h=>True) K (zK (by kernel_rfl)) ?_ () trivial
   rintro _ _
   refine (nl28_2 f g fr gr ys zs ts us rm sm h0 hr ws hs 0 hm _ _ _ _ _).mpr ?_
   intro x0 e0
   have e0:x0=false:=e0
   subst e0
   exact ⟨fun h=>(by cases h),fun _=>⟨uL hw,hK⟩⟩
  ·rename_i k
   obtain ⟨rfl,rfl,rfl,hlen,hK⟩:=hq
   have hy:=hS.2.1
   have hyl:=hS.2.2.1
   refine zT (hints:=hintOf [(7004,52),(7008,52),(7012,53),(14015,53)]) (prs:=zN Try.f28) (Ls:=noLs) sp28_ok ends28_1 (γ:=Int×List V) (fun g=>[.ptr 1000 0 [],.ptr 1001 0 [],.ptr 1002 0 [],.ptr 1032 0 [],.int .i64 ws.length,.int .i64 g.1]) (fun h=>[⟨none,false,.agg [.agg (arrF 16 f),.bool fr,.list false ws,.int .i64 rm,.list false ts]⟩,⟨none,false,.agg [.agg (arrF 16 g),.bool gr,.list false zs,.int .i64 sm,.list false us]⟩,⟨none,false,zS⟩,⟨none,false,.agg [.agg (arrF 16 h0),.bool hr,.sl 1031 ws.length,.int .i64 hm,.list false hs]⟩,⟨some 52,false,.agg h.2⟩]) (fun h=>(ws.length-h.1).toNat)
    (fun h=>0≤h.1∧h.1≤ws.length∧h.2.length=ws.length∧KLs h.2∧h.2.take h.1.toNat++uC (ws.drop h.1.toNat) (zs.drop h.1.toNat)=uC ws zs) K (zK (by kernel_rfl)) ?_ (0,ws) ⟨Int.le_refl _,by show (0:Int)≤(ws.length:Int);omega,rfl,hw,by simp⟩
   rintro ⟨i,xs⟩ ⟨hi,hi2,hl,hx,hj⟩
   simp only at hi hi2 hl hx hj
   refine (nl28_1 f g fr gr ws zs ts us rm sm h0 hr xs hs ws.length hm _ i _ _ _).mpr ?_
   intro x0 e0;subst e0
   refine ⟨fun hlt=>?_,fun hlt=>?_⟩
   ·simp only [decide_eq_true_eq] at hlt
    obtain ⟨m,a,g1⟩:=klsG hy hi hlt
    obtain ⟨n,b,g2⟩:=klsG hz hi (by omega)
    rw [drop_getV hi hlt,drop_getV hi (by omega:i<zs.length),g1,g2] at hj
    have hxl:i<xs.length:=by omega
    refine ⟨hi,hlt,m,a,g1,hi,by omega,n,b,g2,hl.symm,hi,hlt,rfl,hl.symm,by simp,kls_off hx hi hxl,kls_sub hx rfl hi hxl,xs.set i.toNat (.agg [.int .i64 (uM m a n b).1,.int .i64 (uM m a n b).2]),kls_upd _ hi hxl,fun x e=>?_⟩
    rw [wrap_le hi (by omega)] at e;subst e
    have hk:KLs (xs.set i.toNat (.agg [.int .i64 (uM m a n b).1,.int .i64 (uM m a n b).2])):=fun v hv=>by
     rcases List.mem_or_eq_of_mem_set hv with hv|rfl
     ·exact hx v hv
     ·exact ⟨_,_,rfl⟩
    refine ⟨uL hk,(i+1,xs.set i.toNat (.agg [.int .i64 (uM m a n b).1,.int .i64 (uM m a n b).2])),rfl,rfl,by show ((ws.length:Int)-(i+1)).toNat<((ws.length:Int)-i).toNat;omega,by show 0≤i+1;omega,by show i+1≤_;omega,by show (xs.set _ _).length=_;rw [List.length_set];exact hl,hk, ?_⟩
    show (xs.set i.toNat _).take (i+1).toNat++_=_
    have e1:(i+1).toNat=i.toNat+1:=by omega
    rw [e1,take_set _ (by omega),←hj,←e1]
    simp only [uC,List.append_assoc,List.singleton_append]
   ·simp only [decide_eq_false_iff_not] at hlt
    have e:i=ws.length:=by omega
    subst e
    have e2:uC ws zs=xs:=by
     rw [←hj,drop_end (by omega)]
     simp only [Int.toNat_natCast,uC,List.append_nil]
     exact List.take_of_length_le (by omega)
    rw [e2] at hK
    exact ⟨uL hx,hK⟩
  ·exact hq.elim
 ·exact h.elim
theorem tU:∀{xs ys:List V},KLs xs→KLs ys→xs.length=ys.length→(uC xs ys).length=xs.length
 |[],[],_,_,h=>rfl
 |[],y::r,_,_,h=>by simp at h
 |x::r,[],_,_,h=>by simp at h
 |x::r,y::q,hx,hy,h=>by
  obtain ⟨n,a,rfl⟩:=hx x (by simp)
  obtain ⟨m,b,rfl⟩:=hy y (by simp)
  simp only [uC,List.length_cons]
  rw [tU (fun v hv=>hx v (by simp [hv])) (fun v hv=>hy v (by simp [hv])) (by simpa using h)]
theorem c28 (a b:FS) (ha:SOkS a) (hb:SOkS b):CallP Try.prog 28 [fsV a,fsV b] (.tup [fsV (tF a b),.bool (uH a b)]):=by
 obtain ⟨f,fr,ys,rm,ts⟩:=a
 obtain ⟨g,gr,zs,sm,us⟩:=b
 obtain ⟨hy,ly,ht,lt⟩:=ha
 obtain ⟨hz,lz,hu,lu⟩:=hb
 simp only at hy ly ht lt hz lz hu lu
 have hS:SOk (arrF 16 f) ys ts:=⟨⟨f,rfl⟩,hy,ly,ht,lt⟩
 have bad:uH ⟨f,fr,ys,rm,ts⟩ ⟨g,gr,zs,sm,us⟩=false→V.tup [fsV (tF ⟨f,fr,ys,rm,ts⟩ ⟨g,gr,zs,sm,us⟩),.bool (uH ⟨f,fr,ys,rm,ts⟩ ⟨g,gr,zs,sm,us⟩)]=V.tup [V.agg [V.agg (arrF 16 zF),V.bool false,V.list false [],V.int IntKind.i64 0,V.list false []],V.bool false]:=fun e=>by
  unfold tF
  rw [e,if_neg (by decide)]
  rfl
 have good:uH ⟨f,fr,ys,rm,ts⟩ ⟨g,gr,zs,sm,us⟩=true→V.tup [fsV (tF ⟨f,fr,ys,rm,ts⟩ ⟨g,gr,zs,sm,us⟩),.bool (uH ⟨f,fr,ys,rm,ts⟩ ⟨g,gr,zs,sm,us⟩)]=V.tup [V.agg [V.agg (arrF 16 (tD f g)),V.bool fr,V.list false (if fr=true then uC ys zs else []),V.int IntKind.i64 (minI rm sm),V.list false ts],V.bool true]:=fun e=>by
  unfold tF
  rw [e,if_pos rfl]
  rfl
 have ok1:fr=gr→(fr=true→ys.length=zs.length)→uT ts us=true→uH ⟨f,fr,ys,rm,ts⟩ ⟨g,gr,zs,sm,us⟩=true:=fun e1 e2 e3=>by
  unfold uH
  subst e1
  rw [if_neg (by simp),if_neg (by
   show ¬(if fr=true then ((ys.length:Int) != (zs.length:Int)) else false)=true
   split
   ·rename_i h;rw [e2 h];simp
   ·decide)]
  exact e3
 refine call_loops sp28_ok Try.func28 Try.ntmps28 (by kernel_rfl) (zR fun p hp=>?_) ((n28 f g fr gr ys zs ts us rm sm _).mpr ?_)
 ·have e:loopsOf 0 (zC Try.f28)=[zP Try.f28 0,zP Try.f28 1]:=by kernel_rfl
  rw [e] at hp
  simp only [List.mem_cons,List.not_mem_nil,or_false] at hp
  rcases hp with rfl|rfl
  ·exact zU lp28a
  ·exact lsAdd_miss (by kernel_rfl) (zU lp28b)
 ·intro x0 e0
  refine ⟨fun h=>bad ?_,fun h=>?_⟩
  ·rw [h] at e0
   unfold uH
   rw [if_pos e0.symm]
  rw [h] at e0
  have egr:fr=gr:=by simpa using e0.symm
  refine ⟨fun hf _ x6 e6 _ x9 e9 x11 e11=>⟨fun h11=>bad ?_,fun h11=>⟨ht,hu,by omega,fun x15 e15=>⟨fun h15=>bad ?_,fun h15=>⟨hS,fun w ew=>?_⟩⟩⟩⟩,fun hf=>⟨fun h=>(by cases h),fun _=>⟨ht,hu,by omega,fun x15 e15=>⟨fun h15=>bad ?_,fun h15=>⟨hS,fun w ew=>?_⟩⟩⟩⟩⟩
  ·subst e6 e9
   rw [h11] at e11
   unfold uH
   rw [if_neg (by show ¬(fr != gr)=true;rw [←e0];decide),if_pos (by show (if fr=true then ((ys.length:Int) != (zs.length:Int)) else false)=true;rw [if_pos hf,←e11])]
  ·subst e6 e9
   rw [h11] at e11;rw [h15] at e15
   unfold uH
   rw [if_neg (by show ¬(fr != gr)=true;rw [←e0];decide),if_neg (by show ¬(if fr=true then ((ys.length:Int) != (zs.length:Int)) else false)=true;rw [if_pos hf,←e11];decide)]
   simpa using e15.symm
  ·subst ew e6 e9
   rw [h11] at e11;rw [h15] at e15
   have hl:=ne_len e11.symm
   have ho:=ok1 egr (fun _=>hl) (by simpa using e15.symm)
   refine ⟨uL hy,f,g,rfl,rfl,⟨f,rfl⟩,rfl,rfl,hS,hz,hy,fun x26 e26=>⟨fun h26=>?_,fun h26=>⟨rfl,fun _ x38 e38=>⟨uL hy,f,g,tD f g,rfl,rfl,rfl,rfl,rfl,hS,hz,hy,rfl,rfl,e38,hl,fun z ez=>⟨(tU hy hz hl).symm, ?_⟩⟩⟩⟩⟩
   ·rw [h26,hf] at e26;cases e26
   ·subst ez
    rw [good ho,if_pos hf]
    rfl
  ·rw [h15] at e15
   unfold uH
   rw [if_neg (by show ¬(fr != gr)=true;rw [←e0];decide),if_neg (by show ¬(if fr=true then ((ys.length:Int) != (zs.length:Int)) else false)=true;rw [if_neg (by rw [hf];decide)];decide)]
   simpa using e15.symm
  ·subst ew
   rw [h15] at e15
   have ho:=ok1 egr (fun h=>by rw [hf] at h;cases h) (by simpa using e15.symm)
   refine ⟨uL hy,f,g,rfl,rfl,⟨f,rfl⟩,rfl,rfl,hS,hz,hy,fun x26 e26=>⟨fun h26=>⟨uL hy,f,g,tD f g,rfl,rfl,rfl,rfl,rfl,hS,hz,hy,rfl,fun z ez=>?_⟩,fun h26=>?_⟩⟩
   ·subst ez
    rw [good ho,if_neg (by rw [hf];decide)]
    rfl
   ·rw [h26,hf] at e26;cases e26
theorem b28_ok (args:List V) (k:V→Prop) (h:b28 args k):∃r,CallP Try.prog 28 args r∧k r:=by
 unfold b28 at h
 split at h
 ·obtain ⟨f,g,rfl,rfl,h1,h2,hk⟩:=h
  exact ⟨_,c28 _ _ h1 h2,hk _ rfl _ rfl⟩
 ·exact h.elim
end GoL
