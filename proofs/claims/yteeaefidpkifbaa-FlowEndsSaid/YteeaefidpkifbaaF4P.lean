/- A part of the proof: a logic proved sound over the model; contracts; plain laws. -/
import Derived.Test.YteeaefidpkifbaaF4N
set_option linter.all false
open Go Go.Proofs
namespace GoL
set_option maxRecDepth 8000
attribute [local irreducible] wC
theorem uX:∀(m:SM) (i:Int),mget (stV m) i=(uZ m i).map fsV
 |[],i=>rfl
 |(k,s)::r,i=>by
  have:=uX r i
  unfold stV at this ⊢
  simp only [List.map_cons,mget,uZ]
  cases h:(k==i)<;>simp only [if_true,if_false,Bool.false_eq_true,Option.map_some]
  exact this
theorem mput_stV (s:FS):∀(m:SM) (i:Int),mput (stV m) i (fsV s)=stV (tL m i s)
 |[],i=>rfl
 |(k,t)::r,i=>by
  have:=mput_stV s r i
  unfold stV at this ⊢
  simp only [List.map_cons,mput,tL]
  cases h:(k==i)<;>simp only [if_true,if_false,Bool.false_eq_true,List.map_cons]
  rw [this]
theorem mput_frV:∀(q:List Int) (i:Int),mput (frV q) i (.bool true)=frV (tY q i)
 |[],i=>rfl
 |k::r,i=>by
  have:=mput_frV r i
  unfold frV at this ⊢
  simp only [List.map_cons,mput,tY]
  cases h:(k==i)<;>simp only [if_true,if_false,Bool.false_eq_true,List.map_cons]
  ·rw [this]
  ·have e:k=i:=by simpa using h
   rw [e]
theorem mdel_frV:∀(q:List Int) (i:Int),mdel (frV q) i=frV (uS q i)
 |[],i=>rfl
 |k::r,i=>by
  have:=mdel_frV r i
  unfold frV at this ⊢
  simp only [List.map_cons,mdel,uS]
  cases h:(k==i)<;>simp only [if_true,if_false,Bool.false_eq_true,List.map_cons]
  rw [this]
theorem sE:∀q:List Int,mkeys (frV q)=q.map (V.int .i64)
 |[]=>rfl
 |k::r=>by
  have:=sE r
  unfold frV at this ⊢
  simp only [List.map_cons,mkeys]
  rw [this]
theorem lget_ok {m:SM} (h:∀p∈m,SOkS p.2) {i:Int} {s:FS} (hs:uZ m i=some s):SOkS s:=by
 induction m with
 |nil=>cases hs
 |cons p r ih=>
  obtain ⟨k,t⟩:=p
  unfold uZ at hs
  split at hs
  ·cases hs;exact h (k,s) (by simp)
  ·exact ih (fun q hq=>h q (by simp [hq])) hs
theorem lput_ok {m:SM} (h:∀p∈m,SOkS p.2) {i:Int} {s:FS} (hs:SOkS s):∀p∈tL m i s,SOkS p.2:=by
 induction m with
 |nil=>intro p hp;simp [tL] at hp;subst hp;exact hs
 |cons p r ih=>
  obtain ⟨k,t⟩:=p
  intro x hx
  unfold tL at hx
  split at hx
  ·rcases List.mem_cons.1 hx with rfl|hx
   ·exact hs
   ·exact h x (by simp [hx])
  ·rcases List.mem_cons.1 hx with rfl|hx
   ·exact h _ (by simp)
   ·exact ih (fun q hq=>h q (by simp [hq])) x hx
theorem tV:∀{xs ys:List V},KLs (uC xs ys)
 |[],_=>fun v hv=>by simp [uC] at hv
 |x::r,[]=>fun v hv=>by
  unfold uC at hv
  split at hv
  ·rename_i e1 e2;cases e2
  ·cases hv
 |x::r,y::q=>fun v hv=>by
  unfold uC at hv
  split at hv
  ·rename_i r' _ _ _ _ q' e1 e2
   cases e1;cases e2
   rcases List.mem_cons.1 hv with rfl|hv
   ·exact ⟨_,_,rfl⟩
   ·exact tV v hv
  ·cases hv
theorem sC:∀(xs ys:List V),(uC xs ys).length≤xs.length
 |[],_=>by simp [uC]
 |x::r,[]=>by
  unfold uC
  split
  ·rename_i e1 e2;cases e2
  ·simp
 |x::r,y::q=>by
  unfold uC
  split
  ·rename_i e1 e2
   cases e1;cases e2
   have:=sC r q
   simp only [List.length_cons];omega
  ·simp
theorem joinS_ok {a b:FS} (ha:SOkS a) (hb:SOkS b):SOkS (tH a b):=by
 obtain ⟨h1,h2,h3,h4⟩:=ha
 refine ⟨?_, ?_,h3,h4⟩
 ·show KLs (if a.fr=true then uC a.ys b.ys else [])
  split
  ·exact tV
  ·intro v hv;cases hv
 ·show (if a.fr=true then uC a.ys b.ys else []).length≤1000
  split
  ·have:=sC a.ys b.ys;omega
  ·exact Nat.zero_le _
theorem sp21_ok:SpOk Try.prog sp21:=zA b28_ok (zA b29_ok zD)
theorem stV_len (m:SM):(stV m).length=m.length:=by simp [stV]
theorem frV_len (q:List Int):(frV q).length=q.length:=by simp [frV]
theorem c21 (fm tm en ar:Int) (m:SM) (q:List Int) (i:Int) (s:FS) (hm:tX m) (hq:q.length≤100000) (hs:SOkS s) (h0:-1≤i) (h1:i≤1000000000):
  CallH Try.prog 21 [.ptr 0 0 [],.int .i64 i,fsV s] (lkB [(0,⟨none,false,wkV fm tm en ar 1 2⟩),(1,⟨some 48,false,.own 48 (stV m)⟩),(2,⟨some 65,false,.own 65 (frV q)⟩)]) (.bool (uA fm tm m q i s).1)
   (lkB [(0,⟨none,false,wkV fm tm en ar 1 2⟩),(1,⟨some 48,false,.own 48 (stV (uA fm tm m q i s).2.1)⟩),(2,⟨some 65,false,.own 65 (frV (uA fm tm m q i s).2.2)⟩)]):=by
 refine callH_go (η:=[(0,⟨none,false,wkV fm tm en ar 1 2⟩),(1,⟨some 48,false,.own 48 (stV m)⟩),(2,⟨some 65,false,.own 65 (frV q)⟩)]) (ids:=[0,1,2]) (ks:=[⟨none,false,wkV fm tm en ar 1 2⟩,⟨some 48,false,.own 48 (stV (uA fm tm m q i s).2.1)⟩,⟨some 65,false,.own 65 (frV (uA fm tm m q i s).2.2)⟩]) (hint:=none) (Ls:=noLs) (hints:=zB) (prs:=zN Try.f21) (N:=60) sp21_ok Try.func21 Try.ntmps21 (by kernel_rfl) (zK (by kernel_rfl)) ?_
 obtain ⟨f,fr,ys,rm,ts⟩:=s
 refine (n21 fm tm en ar m q i f fr ys ts rm _ _).mpr ?_
 have bad:∀z,uA fm tm m q i ⟨f,fr,ys,rm,ts⟩=z→z=(false,m,q)→V.bool (uA fm tm m q i ⟨f,fr,ys,rm,ts⟩).1=V.bool false∧[(⟨none,false,wkV fm tm en ar 1 2⟩:Blk),⟨some 48,false,.own 48 (stV (uA fm tm m q i ⟨f,fr,ys,rm,ts⟩).2.1)⟩,⟨some 65,false,.own 65 (frV (uA fm tm m q i ⟨f,fr,ys,rm,ts⟩).2.2)⟩]=[⟨none,false,wkV fm tm en ar 1 2⟩,⟨some 48,false,.own 48 (stV m)⟩,⟨some 65,false,.own 65 (frV q)⟩]:=fun z e1 e2=>by rw [e1,e2];exact ⟨rfl,rfl⟩
 have put:∀(o:FS),uA fm tm m q i ⟨f,fr,ys,rm,ts⟩=(true,tL m i o,tY q i)→List.length (stV m)<9223372036854775807∧-9223372036854775808≤i∧i<9223372036854775808∧List.length (frV q)<9223372036854775807∧-9223372036854775808≤i∧i<9223372036854775808∧
   V.bool (uA fm tm m q i ⟨f,fr,ys,rm,ts⟩).1=V.bool true∧[(⟨none,false,wkV fm tm en ar 1 2⟩:Blk),⟨some 48,false,.own 48 (stV (uA fm tm m q i ⟨f,fr,ys,rm,ts⟩).2.1)⟩,⟨some 65,false,.own 65 (frV (uA fm tm m q i ⟨f,fr,ys,rm,ts⟩).2.2)⟩]=[⟨none,false,wkV fm tm en ar 1 2⟩,⟨some 48,false,.own 48 (mput (stV m) i (fsV o))⟩,⟨some 65,false,.own 65 (mput (frV q) i (.bool true))⟩]:=fun o e=>by
  have:=hm.2
  rw [e,mput_stV,mput_frV,stV_len,frV_len]
  refine ⟨by omega,by omega,by omega,by omega,by omega,by omega,rfl,rfl⟩
 intro x0 e0
 refine ⟨fun h=>bad _ rfl ?_,fun h x4 e4=>⟨fun h4=>bad _ rfl ?_,fun h4=>⟨fun hn=>⟨fun h=>(by cases h),fun _=>put ⟨f,fr,ys,rm,ts⟩ ?_⟩,fun hsome=>?_⟩⟩⟩
 ·unfold uA
  rw [if_pos (by rw [←e0,h])]
 ·unfold uA
  rw [if_neg (by rw [←e0,h];decide),if_pos (by rw [←e4,h4])]
 ·rw [uX] at hn
  have hn:uZ m i=none:=by
   cases hl:uZ m i with
   |none=>rfl
   |some s=>rw [hl] at hn;cases hn
  unfold uA
  rw [if_neg (by rw [←e0,h];decide),if_neg (by rw [←e4,h4];decide),hn]
 ·rw [uX] at hsome ⊢
  cases hl:uZ m i with
  |none=>rw [hl] at hsome;cases hsome
  |some t=>
   have ht:=lget_ok hm.1 hl
   have hc:uA fm tm m q i ⟨f,fr,ys,rm,ts⟩=if uH t ⟨f,fr,ys,rm,ts⟩=true then (if uQ (tH t ⟨f,fr,ys,rm,ts⟩) t=true then (true,m,q) else (true,tL m i (tH t ⟨f,fr,ys,rm,ts⟩),tY q i)) else (false,m,q):=by
    unfold uA
    rw [if_neg (by rw [←e0,h];decide),if_neg (by rw [←e4,h4];decide),hl]
   refine ⟨t.f,t.fr,t.ys,t.rm,t.ts,rfl,fun _=>⟨t.f,f,rfl,rfl,ht,hs,fun o eo ok eok x38 e38=>⟨fun h38=>bad _ rfl ?_,fun h38=>?_⟩⟩,fun h=>(by cases h)⟩
   ·have eok:ok=uH t ⟨f,fr,ys,rm,ts⟩:=eok
    rw [h38] at e38
    rw [hc,←eok,if_neg (by intro h;rw [h] at e38;cases e38)]
   ·have eok:ok=uH t ⟨f,fr,ys,rm,ts⟩:=eok
    have hok:ok=true:=by rw [h38] at e38;simpa using e38.symm
    have eo:o=tF t ⟨f,fr,ys,rm,ts⟩:=eo
    have eo:o=tH t ⟨f,fr,ys,rm,ts⟩:=by
     rw [eo];unfold tF;rw [←eok,hok,if_pos rfl]
    subst eo
    rw [←eok,hok,if_pos rfl] at hc
    refine ⟨_,t.f,rfl,rfl,joinS_ok ht hs,ht,fun hsm=>?_,fun hsm=>put _ ?_⟩
    ·have hsm:uQ (tH t ⟨f,fr,ys,rm,ts⟩) t=true:=hsm
     rw [if_pos hsm] at hc
     rw [hc]
     exact ⟨rfl,rfl⟩
    ·have hsm:uQ (tH t ⟨f,fr,ys,rm,ts⟩) t=false:=hsm
     rw [if_neg (by rw [hsm];decide)] at hc
     exact hc
theorem h21_inv {hvc rest:List V} {H1:Nat→Option Blk} {id:Nat} {k:V→Hp→Prop} (h:h21 hvc rest H1 id k):∃(c a b:Nat) (fm tm en ar:Int) (m:SM) (q:List Int) (i:Int) (s:FS),hvc=[.ptr c 0 []]∧rest=[.int .i64 i,fsV s]∧H1 c=some ⟨none,false,wkV fm tm en ar a b⟩∧
  H1 a=some ⟨some 48,false,.own 48 (stV m)⟩∧H1 b=some ⟨some 65,false,.own 65 (frV q)⟩∧a≠b∧tX m∧q.length≤100000∧SOkS s∧-1≤i∧i≤1000000000∧k (.bool (uA fm tm m q i s).1) [(c,⟨none,false,wkV fm tm en ar a b⟩),(a,⟨some 48,false,.own 48 (stV (uA fm tm m q i s).2.1)⟩),(b,⟨some 65,false,.own 65 (frV (uA fm tm m q i s).2.2)⟩)]:=by
 unfold h21 at h
 repeat' (first|(exact h.elim)|split at h)
 rw [zE] at h
 obtain ⟨hab,m,q,g,e1,e2,e3,h1,h2,h3,h4,h5,h6⟩:=h
 subst e1 e2 e3
 exact ⟨_,_,_,_,_,_,_,m,q,_,⟨g,_,_,_,_⟩,rfl,rfl,by assumption,by assumption,by assumption,fun e=>by rw [e] at hab;simp at hab,h1,h2,h3,h4,h5,h6 _ rfl⟩
theorem h21_ok:HOk Try.prog 21 h21:=by
 intro hvc rest H1 id k h
 obtain ⟨c,a,b,fm,tm,en,ar,m,q,i,s,rfl,rfl,hc,ha,hb,hab,hm,hq,hs,h0,h1,hk⟩:=h21_inv h
 have hca:c≠a:=fun e=>by rw [e,ha] at hc;cases hc
 have hcb:c≠b:=fun e=>by rw [e,hb] at hc;cases hc
 refine ⟨_,_, ?_,hk⟩
 refine hsem_fin (ρ:=ro3 c a b) (hv:=[.ptr 0 0 []]) (rest:=[.int .i64 i,fsV s]) (L:=[(0,⟨none,false,wkV fm tm en ar 1 2⟩),(1,⟨some 48,false,.own 48 (stV m)⟩),(2,⟨some 65,false,.own 65 (frV q)⟩)])
  (L':=[(0,⟨none,false,wkV fm tm en ar 1 2⟩),(1,⟨some 48,false,.own 48 (stV (uA fm tm m q i s).2.1)⟩),(2,⟨some 65,false,.own 65 (frV (uA fm tm m q i s).2.2)⟩)]) (r:=.bool (uA fm tm m q i s).1)
  (fun p hp=>?_) (fun x hx y hy e=>?_) (fun x hx=>hx) (fun x hx hn=>absurd hx hn) (fun u hu x hx=>?_) (fun p hp hp2 j hj=>?_) (fun p hp hp2 j hj=>?_) (fun j hj=>by cases hj) (fun x hx=>?_) (c21 fm tm en ar m q i s hm hq hs h0 h1)
 ·simp at hp
  rcases hp with rfl|rfl|rfl
  ·exact ⟨Nat.zero_lt_succ _,by rw [ro3_0,hc];rfl⟩
  ·exact ⟨Nat.one_lt_succ_succ _,by rw [ro3_1,ha];rfl⟩
  ·exact ⟨by show (2:Nat)<1000;decide,by rw [ro3_2,hb];rfl⟩
 ·simp [keysL] at hx hy
  rcases hx with rfl|rfl|rfl<;>rcases hy with rfl|rfl|rfl<;>first|rfl|(exact absurd e hca)|(exact absurd e.symm hca)|(exact absurd e hcb)|(exact absurd e.symm hcb)|(exact absurd e hab)|(exact absurd e.symm hab)
 ·simp at hu;subst hu;simp [V.idsB] at hx;subst hx;simp [keysL]
 ·simp at hp
  rcases hp with rfl|rfl|rfl
  ·simp [wkV,V.idsB,V.idsBs] at hj
   rcases hj with rfl|rfl<;>simp [keysL]
  ·cases hp2
  ·cases hp2
 ·simp at hp
  rcases hp with rfl|rfl|rfl
  ·simp [wkV,V.idsB,V.idsBs] at hj
   rcases hj with rfl|rfl<;>simp [keysL]
  ·cases hp2
  ·cases hp2
 ·refine ⟨.ptr c 0 [],by simp [V.ren,ro3_0], ?_⟩
  simp [keysL] at hx
  rcases hx with rfl|rfl|rfl
  ·exact .inl (by simp [V.idsB,ro3_0])
  ·exact .inr ⟨c,by simp [V.idsB],false,_,hc,by simp [wkV,V.idsB,V.idsBs,ro3_1]⟩
  ·exact .inr ⟨c,by simp [V.idsB],false,_,hc,by simp [wkV,V.idsB,V.idsBs,ro3_2]⟩
theorem minF_min:∀(l:List V) (a:Int),(∀v∈l,∃n:Int,v=.int .i64 n)→tJ a l≤a∧(∀n:Int,V.int .i64 n∈l→tJ a l≤n)∧(tJ a l=a∨V.int .i64 (tJ a l)∈l)
 |[],a,_=>⟨Int.le_refl _,(fun n h=>by cases h),.inl rfl⟩
 |v::r,a,h=>by
  obtain ⟨x,rfl⟩:=h v (by simp)
  obtain ⟨h1,h2,h3⟩:=minF_min r (if x<a then x else a) (fun v hv=>h v (by simp [hv]))
  simp only [tJ]
  have b1:(if x<a then x else a)≤a:=by split<;>omega
  have b2:(if x<a then x else a)≤x:=by split<;>omega
  refine ⟨by omega,fun n hn=>?_, ?_⟩
  ·rcases List.mem_cons.1 hn with e|hn
   ·cases e
    omega
   ·exact h2 n hn
  ·rcases h3 with h3|h3
   ·rw [h3]
    split
    ·exact .inr (by simp)
    ·exact .inl rfl
   ·exact .inr (by simp [h3])
theorem sD {l:List V} (h:sH l) (hl:1≤l.length):(∀n:Int,V.int .i64 n∈l→uE l≤n)∧V.int .i64 (uE l)∈l:=by
 obtain ⟨h,_⟩:=h
 match l,hl with
 |v::r,_=>
  obtain ⟨x,rfl⟩:=h v (by simp)
  obtain ⟨h1,h2,h3⟩:=minF_min r x (fun v hv=>h v (by simp [hv]))
  refine ⟨fun n hn=>?_, ?_⟩
  ·rcases List.mem_cons.1 hn with e|hn
   ·cases e;exact h1
   ·exact h2 n hn
  ·show V.int .i64 (tJ x r)∈_
   rcases h3 with h3|h3
   ·rw [h3];simp
   ·simp [h3]
theorem minL2_perm {l l':List V} (h:sH l) (hl:1≤l.length) (hp:l'.Perm l):sH l'∧1≤l'.length∧uE l'=uE l:=by
 have h':sH l':=⟨fun v hv=>h.1 v (hp.mem_iff.1 hv),by rw [hp.length_eq];exact h.2⟩
 have hl':1≤l'.length:=by rw [hp.length_eq];exact hl
 obtain ⟨a1,a2⟩:=sD h hl
 obtain ⟨b1,b2⟩:=sD h' hl'
 have c1:=a1 _ (hp.mem_iff.1 b2)
 have c2:=b1 _ (hp.mem_iff.2 a2)
 exact ⟨h',hl',by omega⟩
theorem sp23_ok:SpOk Try.prog sp23:=zD
theorem lp23:LsOk Try.prog 25 1008 [0,3,4] [] ent23 (zP Try.f23 0).2:=by
 intro vs ks1 K h
 unfold ent23 at h
 split at h
 ·rename_i xs a i
  obtain ⟨hx,rfl,hl,hK⟩:=h
  refine zT (hints:=zB) (prs:=zN Try.f23) (Ls:=noLs) sp23_ok ends23_0 (γ:=Int×Int) (fun g=>[.list false xs,.int .i64 g.1,.int .i64 g.2]) (fun g=>[]) (fun g=>(xs.length-g.2).toNat)
   (fun g=>1≤g.2∧tJ g.1 (xs.drop g.2.toNat)=tJ a (xs.drop 1)) K (zK (by kernel_rfl)) ?_ (a,1) ⟨Int.le_refl _,rfl⟩
  rintro ⟨b,i⟩ ⟨h0,hE⟩
  simp only at h0 hE
  have hlen:=hx.2
  refine (nl23_0 xs b i _ _ _).mpr ?_
  intro _ x e x3 e3
  subst e e3
  refine ⟨fun h=>?_,fun h=>?_⟩
  ·simp only [decide_eq_true_eq] at h
   obtain ⟨n,hg⟩:=hx.1 _ (getV_memL (by omega:0≤i) h)
   rw [drop_getV (by omega) h,hg] at hE
   simp only [tJ] at hE
   refine ⟨by omega,h,n,hg,fun z ez x e=>?_⟩
   rw [wrap_le (by omega) (by omega)] at e
   subst e ez
   exact ⟨(_,i+1),rfl,rfl,by show ((xs.length:Int)-(i+1)).toNat<((xs.length:Int)-i).toNat;omega,by show 1≤i+1;omega,hE⟩
  ·simp only [decide_eq_false_iff_not] at h
   rw [drop_end h] at hE
   exact hK _ hE
 ·exact h.elim
theorem c23 (xs:List V) (h:sH xs) (hl:1≤xs.length):CallP Try.prog 23 [.list false xs] (.int .i64 (uE xs)):=by
 refine call_loops sp23_ok Try.func23 Try.ntmps23 (by kernel_rfl) (zR fun p hp=>?_) ((n23 xs _).mpr ?_)
 ·have e:loopsOf 0 (zC Try.f23)=[zP Try.f23 0]:=by kernel_rfl
  rw [e] at hp
  simp only [List.mem_cons,List.not_mem_nil,or_false] at hp
  subst hp
  exact zU lp23
 ·intro _ x1 e1 x3 e3
  subst e1
  refine ⟨fun h=>?_,fun _=>?_⟩
  ·rw [h] at e3
   have:=of_decide_eq_true e3.symm
   omega
  ·obtain ⟨n,hg⟩:=h.1 _ (getV_memL (Int.le_refl 0) (by omega:(0:Int)<xs.length))
   have e0:xs=.int .i64 n::xs.drop 1:=by
    have:=drop_getV (xs:=xs) (i:=0) (Int.le_refl 0) (by omega)
    rw [hg] at this
    simpa using this
   refine ⟨Int.le_refl _,by omega,n,hg,h,rfl,hl,fun b eb=>?_⟩
   subst eb
   conv=>lhs;rw [e0]
   rfl
theorem b23_ok (args:List V) (k:V→Prop) (h:b23 args k):∃r,CallP Try.prog 23 args r∧k r:=by
 unfold b23 at h
 split at h
 ·obtain ⟨h1,h2,hk⟩:=h
  refine ⟨_,callP_bag fun us hp=>?_,hk⟩
  obtain ⟨a1,a2,a3⟩:=minL2_perm h1 h2 hp
  rw [←a3]
  exact c23 us a1 a2
 ·exact h.elim
theorem sp25_ok:SpOk Try.prog sp25:=zD
theorem c25 (T E:Nat) (fz:Bool) (t:V):CallH Try.prog 25 [.own T [.ptr 0 0 [],.nilp]] (lkB [(0,⟨some E,fz,t⟩)]) (.fn 32 [.ptr 1000 0 []]) (lkB [(0,⟨some E,fz,t⟩),(1000,⟨none,false,.own T [.ptr 0 0 [],.nilp]⟩)]):=by
 refine callH_go (η:=[(0,⟨some E,fz,t⟩)]) (ids:=[0,1000]) (ks:=[⟨some E,fz,t⟩,⟨none,false,.own T [.ptr 0 0 [],.nilp]⟩]) (hint:=none) (Ls:=noLs) (hints:=zB) (prs:=zN Try.f25) (N:=4) sp25_ok Try.func25 Try.ntmps25 (by kernel_rfl) (zK (by kernel_rfl)) ?_
 refine (n25 T E fz t _ _).mpr ?_
 refine ⟨⟨rfl,fun v hv=>?_⟩,fun _=>⟨rfl,rfl⟩⟩
 cases hv with
 |head=>exact ⟨rfl,rfl⟩
 |tail _ h=>cases h
theorem h25_ok:HOk Try.prog 25 h25:=by
 intro hvc rest H1 id k h
 have hinv:∃(T m E:Nat) (fz:Bool) (t:V),hvc=[.own T [.ptr m 0 [],.nilp]]∧rest=[]∧H1 m=some ⟨some E,fz,t⟩∧m≠id∧k (.fn 32 [.ptr id 0 []]) [(m,⟨some E,fz,t⟩),(id,⟨none,false,.own T [.ptr m 0 [],.nilp]⟩)]:=by
  unfold h25 at h
  repeat' (first|(exact h.elim)|split at h)
  exact ⟨_,_,_,_,_,rfl,rfl,by assumption,fun e=>by subst e;simp_all,h⟩
 obtain ⟨T,m,E,fz,t,rfl,rfl,hm,hne,hk⟩:=hinv
 refine ⟨_,_, ?_,hk⟩
 have:=hsem_fin (H1:=H1) (id:=id) (ρ:=ro2 m id) (hv:=[.own T [.ptr 0 0 [],.nilp]]) (rest:=[]) (L:=[(0,⟨some E,fz,t⟩)]) (L':=[(0,⟨some E,fz,t⟩),(1000,⟨none,false,.own T [.ptr 0 0 [],.nilp]⟩)]) (r:=.fn 32 [.ptr 1000 0 []])
  (fun p hp=>by
   simp at hp;subst hp
   exact ⟨Nat.zero_lt_succ _,by rw [ro2_0,hm];rfl⟩)
  (fun x hx y hy e=>by
   simp [keysL] at hx hy
   rcases hx with rfl|rfl<;>rcases hy with rfl|rfl<;>first|rfl|(exact absurd e hne)|(exact absurd e.symm hne))
  (fun x hx=>by simp [keysL] at hx ⊢;exact .inl hx) (fun x hx hn=>by
   simp [keysL] at hx hn
   rcases hx with rfl|rfl
   ·exact absurd rfl hn
   ·rfl)
  (fun u hu x hx=>by simp at hu;subst hu;simp [V.idsB,V.idsBs] at hx;subst hx;simp [keysL])
  (fun p hp hp2 j hj=>by simp at hp;subst hp;cases hp2)
  (fun p hp hp2 j hj=>by
   simp at hp
   rcases hp with rfl|rfl
   ·cases hp2
   ·simp [V.idsB,V.idsBs] at hj;subst hj;simp [keysL])
  (fun j hj=>by simp [V.idsB,V.idsBs] at hj;subst hj;simp [keysL])
  (fun x hx=>⟨.own T [.ptr m 0 [],.nilp],by simp [V.ren,V.rens,ro2_0],by
   simp [keysL] at hx;subst hx
   exact .inl (by simp [V.idsB,V.idsBs,ro2_0])⟩) (c25 T E fz t)
 exact this
end GoL
