/- A part of the proof: a logic proved sound over the model; contracts; plain laws. -/
import Derived.Test.YteeaefidpkifbaaF5N
set_option linter.all false
open Go Go.Proofs
namespace GoL
set_option maxRecDepth 8000
open Go.Shelf
attribute [local irreducible] wC
theorem uJ (m:SM):∀v,List.Mem v (stV m)→V.ids v=[]:=by
 intro v hv
 have hv:v∈stV m:=hv
 unfold stV at hv
 obtain ⟨p,_,rfl⟩:=List.mem_map.1 hv
 rfl
theorem uI (q:List Int):∀v,List.Mem v (frV q)→V.ids v=[]:=by
 intro v hv
 have hv:v∈frV q:=hv
 unfold frV at hv
 obtain ⟨p,_,rfl⟩:=List.mem_map.1 hv
 rfl
theorem tR (s:FS):∀(m:SM) (i:Int),(tL m i s).length≤m.length+1
 |[],i=>by simp [tL]
 |(k,t)::r,i=>by
  have:=tR s r i
  unfold tL
  split
  ·simp
  ·simp only [List.length_cons];omega
theorem tS:∀(q:List Int) (i:Int),(tY q i).length≤q.length+1
 |[],i=>by simp [tY]
 |k::r,i=>by
  have:=tS r i
  unfold tY
  split
  ·simp
  ·simp only [List.length_cons];omega
theorem qdel_len:∀(q:List Int) (i:Int),(uS q i).length≤q.length
 |[],i=>by simp [uS]
 |k::r,i=>by
  have:=qdel_len r i
  unfold uS
  split
  ·simp
  ·simp only [List.length_cons];omega
theorem tQ {fm tm:Int} {m:SM} {q:List Int} {i:Int} {s:FS} (hm:uO m) (hs:SOkS s):uO (uA fm tm m q i s).2.1∧(uA fm tm m q i s).2.1.length≤m.length+1∧(uA fm tm m q i s).2.2.length≤q.length+1:=by
 have triv:uO m∧m.length≤m.length+1∧q.length≤q.length+1:=⟨hm,by omega,by omega⟩
 unfold uA
 split
 ·exact triv
 ·split
  ·exact triv
  ·cases h:uZ m i with
   |none=>exact ⟨lput_ok hm hs,tR _ _ _,tS _ _⟩
   |some t=>
    simp only
    split
    ·split
     ·exact triv
     ·exact ⟨lput_ok hm (joinS_ok (lget_ok hm h) hs),tR _ _ _,tS _ _⟩
    ·exact triv
theorem ent_ok (n:Int):SOkS (tM n):=⟨fun v hv=>(by cases hv),Nat.zero_le _,fun v hv=>(by cases hv),Nat.zero_le _⟩
theorem tN (n:Int):∀(l:List V) (i:Int),0≤i→-1≤uD n l i∧uD n l i≤i+l.length
 |[],i,h=>by unfold uD;simp;omega
 |v::r,i,h=>by
  unfold uD
  have:=tN n r (i+1) (by omega)
  simp only [List.length_cons]
  split<;>omega
theorem ed_get {es:List (Int×FS)} {i:Int} (h0:0≤i) (h1:i<es.length):∃p,es.drop i.toNat=p::es.drop (i+1).toNat∧getV (edV es) i=.agg [.int .i64 p.1,fsV p.2]∧p∈es:=by
 have hlt:i.toNat<es.length:=by omega
 refine ⟨es[i.toNat], ?_, ?_,List.getElem_mem hlt⟩
 ·rw [List.drop_eq_getElem_cons hlt]
  have e:(i+1).toNat=i.toNat+1:=by omega
  rw [e]
 ·unfold getV edV
  simp [hlt]
theorem edV_len (es:List (Int×FS)):(edV es).length=es.length:=by simp [edV]
theorem b26_ok (args:List V) (k:V→Prop) (h:b26 args k):∃r,CallP Try.prog 26 args r∧k r:=by
 unfold b26 at h
 split at h
 ·obtain ⟨f,rfl,hm,hs,hts,ht,h⟩:=h
  exact ⟨_,c26 _ _ _ _ hm hs hts ht,h _ rfl _ rfl _ rfl _ rfl⟩
 ·exact h.elim
def kRen:Ren:=⟨fun x=>match x with
  |8=>24
  |10=>32
  |11=>31
  |n=>n,fun x=>match x with
  |3=>4
  |23=>65
  |24=>22
  |26=>3
  |28=>73
  |33=>84
  |n=>n,fun n=>n⟩
theorem lay8:SlLaysZI.n8 Try.prog kRen where
 mixed:=rfl
 f8:=⟨ "slices.Collect[int]",by decide,Try.func24.trans rfl⟩
 f11:=⟨ "slices.AppendSeq[[]int,int]",by decide,Try.func31.trans rfl⟩
 t0:=Try.underlying0
 a0:=Try.isAgg0
 z0:=Try.sizeOf0
 v0:=Try.zeroValue0
 t24:=Try.underlying22
 a24:=Try.isAgg22
 z24:=Try.sizeOf22
 v24:=Try.zeroValue22
 t26:=Try.underlying3
 a26:=Try.isAgg3
 z26:=Try.sizeOf3
 v26:=Try.zeroValue3
 t28:=Try.underlying73
 a28:=Try.isAgg73
 z28:=Try.sizeOf73
 v28:=Try.zeroValue73
 i26:=by kernel_rfl
theorem lay10:SlLaysZI.n10 Try.prog kRen where
 mixed:=rfl
 f10:=⟨ "maps.Keys[map[int]bool,int,bool]$1",by decide,Try.func32.trans rfl⟩
 t0:=Try.underlying0
 a0:=Try.isAgg0
 z0:=Try.sizeOf0
 v0:=Try.zeroValue0
 t4:=Try.underlying4
 a4:=Try.isAgg4
 z4:=Try.sizeOf4
 v4:=Try.zeroValue4
 t23:=Try.underlying65
 a23:=Try.isAgg65
 z23:=Try.sizeOf65
 v23:=Try.zeroValue65
 t26:=Try.underlying3
 a26:=Try.isAgg3
 z26:=Try.sizeOf3
 v26:=Try.zeroValue3
 t33:=Try.underlying84
 a33:=Try.isAgg84
 z33:=Try.sizeOf84
 v33:=Try.zeroValue84
theorem hcol24:HOk Try.prog 24 (hbCol 32):=hcol_ok lay8 lay10
theorem sp16_ok:SpOk Try.prog sp16:=zA b22_ok (zA b23_ok (zA b26_ok (zA b27_ok (zH h21_ok (zH h25_ok (zH hcol24 zD))))))
theorem z3 {b:Bool} {m:SM} {q:List Int} {z:Bool×SM×List Int} (h:z=(b,m,q)):z.1=b∧z.2.1=m∧z.2.2=q:=by subst h;exact ⟨rfl,rfl,rfl⟩
theorem nb {b:Bool} {x:Bool} (h:x=!b):(x=true→b=false)∧(x=false→b=true):=by subst h;cases b<;>simp
theorem lp16c:LsOk Try.prog 135 1096 [2,3,7,10,13,111,112,113] [1000,1001,1024,1025,1027] ent16c (lin (zP Try.f16 1) 0).2:=by
 intro vs ks K h
 unfold ent16c at h
 split at h
 ·rename_i a g ev n i am im ex fu li co fm tm en ar st fr pt
  obtain ⟨rfl,rfl,rfl,es,m,q,rfl,rfl,rfl,hc,he,hm,hml,hql,hT,hF⟩:=h
  refine zT (hints:=zB) (prs:=zN Try.f16) (Ls:=noLs) sp16_ok ends16_2 (γ:=Int×SM×List Int)
   (fun g'=>[.ptr 1000 0 [],.ptr 1001 0 [],.ptr 1027 0 [],.int .i64 a,.bool g,.list false (edV es),.int .i64 (edV es).length,.int .i64 g'.1])
   (fun g'=>[⟨none,false,.agg [.list false am,.list false im,.list false ex,.list false fu,.list false li,.list false co]⟩,⟨none,false,.agg [.int .i64 fm,.int .i64 tm,.int .i64 en,.int .i64 ar]⟩,⟨some 48,false,.own 48 (stV g'.2.1)⟩,⟨some 65,false,.own 65 (frV g'.2.2)⟩,⟨none,false,wkV fm tm en ar 1024 1025⟩])
   (fun g'=>(es.length-g'.1).toNat) (fun g'=>0≤g'.1∧g'.1≤es.length∧uG co fm tm (es.drop g'.1.toNat) g'.2.1 g'.2.2=uG co fm tm es m q∧uO g'.2.1∧(g'.2.1.length:Int)≤50001+g'.1∧(g'.2.2.length:Int)≤50001+g'.1) K (zK (by kernel_rfl)) ?_ (0,m,q) ⟨Int.le_refl _,by omega,rfl,hm,by show (m.length:Int)≤50001+0;omega,by show (q.length:Int)≤50001+0;omega⟩
  rintro ⟨i,m1,q1⟩ ⟨h0,h1,hE,hm1,hl1,hl2⟩
  simp only at h0 h1 hE hm1 hl1 hl2
  have hlen:=he.2
  have hle:=edV_len es
  refine (nl16_2 am im ex fu li co fm tm en ar m1 q1 a g es _ i _ _ _).mpr ?_
  intro x0 e0
  subst e0
  refine ⟨fun h=>?_,fun h=>?_⟩
  ·have hlt:i<es.length:=by have:=of_decide_eq_true h;omega
   obtain ⟨⟨n,t⟩,hd,hg,hp⟩:=ed_get h0 hlt
   have hst:SOkS t:=he.1 _ hp
   obtain ⟨p1,p2⟩:=tN n co 0 (Int.le_refl 0)
   have hcl:=hc.2
   have hco:=tQ (fm:=fm) (tm:=tm) (q:=q1) (i:=uD n co 0) (s:=t) hm1 hst
   rw [hd] at hE
   conv at hE=>lhs;unfold uG
   refine ⟨h0,by omega,n,t.f,t.fr,t.ys,t.rm,t.ts,hg,hc,m1,q1,t.f,rfl,rfl,rfl,⟨hm1,by omega⟩,by omega,hst,p1,by omega,fun z ez x14 e14=>?_⟩
   have ez:z=uA fm tm m1 q1 (uD n co 0) t:=ez
   obtain ⟨n1,n2⟩:=nb e14
   refine ⟨fun h14=>?_,fun h14 x18 e18=>?_⟩
   ·have hz:=n1 h14
    rw [ez] at hz
    rw [if_neg (by rw [hz];decide)] at hE
    exact hF _ _ hE.symm
   ·have hz:=n2 h14
    rw [ez] at hz
    rw [if_pos hz] at hE
    rw [wrap_le h0 (by omega)] at e18
    subst e18
    refine ⟨uJ _,uI _,(i+1,z.2.1,z.2.2),rfl,rfl,by show ((es.length:Int)-(i+1)).toNat<((es.length:Int)-i).toNat;omega,by show 0≤i+1;omega,by show i+1≤es.length;omega, ?_, ?_, ?_, ?_⟩
    ·show uG co fm tm (es.drop (i+1).toNat) z.2.1 z.2.2=_
     rw [ez];exact hE
    ·show uO z.2.1
     rw [ez];exact hco.1
    ·show (z.2.1.length:Int)≤50001+(i+1)
     rw [ez];have:=hco.2.1;omega
    ·show (z.2.2.length:Int)≤50001+(i+1)
     rw [ez];have:=hco.2.2;omega
  ·have hge:¬i<es.length:=by have:=of_decide_eq_false h;omega
   have e:es.drop i.toNat=[]:=List.drop_eq_nil_of_le (by omega)
   rw [e] at hE
   exact ⟨uJ _,uI _,hT m1 q1 (by rw [←hE];rfl) hm1⟩
 ·exact h.elim
theorem flowN_nil (E:EF) (co:List V) (fm tm:Int) (k:Nat) (m:SM):tA E co fm tm (k+1) m []=some (true,0,m):=rfl
theorem flowN_cons {E:EF} {co:List V} {fm tm:Int} {k:Nat} {m:SM} {q:List Int} {res:Bool×Int×SM} (hq:q≠[]) (h:tA E co fm tm (k+1) m q=some res):
  m.length≤50000∧q.length≤50000∧0≤uF q∧uF q<co.length∧∃s op ag z,uZ m (uF q)=some s∧getV co (uF q)=.agg [.int .i64 op,.list false ag]∧E op ag s=some z∧
   (if (uU co fm tm (uF q) z m (uS q (uF q))).1=true then tA E co fm tm k (uU co fm tm (uF q) z m (uS q (uF q))).2.1 (uU co fm tm (uF q) z m (uS q (uF q))).2.2 else some (false,uF q,m))=some res:=by
 cases q with
 |nil=>exact absurd rfl hq
 |cons a r=>
  unfold tA at h
  split at h
  ·cases h
  ·rename_i hc
   simp only [Bool.and_eq_false_iff,decide_eq_false_iff_not,not_or,Decidable.not_not] at hc
   obtain ⟨⟨⟨c1,c2⟩,c3⟩,c4⟩:=hc
   refine ⟨c1,c2,c3,c4, ?_⟩
   split at h
   ·cases h
   ·rename_i s hs
    split at h
    ·rename_i op ag hg
     split at h
     ·cases h
     ·rename_i z hz
      exact ⟨s,op,ag,z,hs,hg,hz,h⟩
    ·cases h
theorem lp16b:LsOk Try.prog 135 1037 [2,3,7] [1000,1001,1024,1025,1027] ent16b (zP Try.f16 1).2:=by
 intro vs ks K h
 unfold ent16b at h
 split at h
 ·rename_i am im ex fu li co fm tm en ar st fr pt
  obtain ⟨rfl,E,k,m,q,res,rfl,rfl,hE,hmo,hc,hm,hflow,hT,hF⟩:=h
  refine zT (hints:=zB) (prs:=zN Try.f16) (Ls:=ls16c) sp16_ok ends16_1 (γ:=Nat×SM×List Int)
   (fun g'=>[.ptr 1000 0 [],.ptr 1001 0 [],.ptr 1027 0 []])
   (fun g'=>[⟨none,false,.agg [.list false am,.list false im,.list false ex,.list false fu,.list false li,.list false co]⟩,⟨none,false,.agg [.int .i64 fm,.int .i64 tm,.int .i64 en,.int .i64 ar]⟩,⟨some 48,false,.own 48 (stV g'.2.1)⟩,⟨some 65,false,.own 65 (frV g'.2.2)⟩,⟨none,false,wkV fm tm en ar 1024 1025⟩])
   (fun g'=>g'.1) (fun g'=>uO g'.2.1∧tA E co fm tm g'.1 g'.2.1 g'.2.2=some res) K (zR fun p hp=>?_) ?_ (k,m,q) ⟨hm,hflow⟩
  ·have e:loopsOf 2 (zP Try.f16 1).2=[(4,(lin (zP Try.f16 1) 0).2)]:=by kernel_rfl
   have hp:p∈loopsOf 2 (zP Try.f16 1).2:=hp
   rw [e] at hp
   simp only [List.mem_singleton] at hp
   subst hp
   exact zU lp16c
  clear hm hflow
  rintro ⟨k,m,q⟩ ⟨hm,hflow⟩
  simp only at hm hflow
  refine (nl16_1 am im ex fu li co fm tm en ar m q _ _ _).mpr ?_
  rw [sE]
  have eq:uE (q.map (V.int .i64))=uF q:=rfl
  rw [eq,mdel_frV,uX,frV_len]
  intro _ x1 e1 x3 e3
  subst e1
  cases k with
  |zero=>unfold tA at hflow;cases hflow
  |succ k'=>
   refine ⟨fun h3=>?_,fun h3=>?_⟩
   ·have hpos:1≤q.length:=by rw [h3] at e3;have:=of_decide_eq_true e3.symm;omega
    have hq:q≠[]:=fun e=>by subst e;exact absurd hpos (by decide)
    obtain ⟨c1,c2,c3,c4,s,op,ag,⟨o',es',g',ok'⟩,hs,hg,hz,hfl⟩:=flowN_cons hq hflow
    obtain ⟨z1,z2,z3,z4,z5,z6,z7⟩:=hE _ _ _ _ _ _ _ hz
    have hcl:=hc.2
    have hdl:=qdel_len q (uF q)
    obtain ⟨op2,ag2,hg2,ht⟩:=uR hc c3 c4
    rw [hg] at hg2
    cases hg2
    rw [hs]
    have hss:SOkS s:=lget_ok hm hs
    have hfin:∀m' q',uU co fm tm (uF q) (o',es',g',ok') m (uS q (uF q))=(true,m',q')→tA E co fm tm k' m' q'=some res:=fun m' q' e=>by
     rw [e] at hfl;exact hfl
    have hbad:∀{m' q'},uU co fm tm (uF q) (o',es',g',ok') m (uS q (uF q))=(false,m',q')→K .ret 1037 [(4,.own 0 []),(5,.int .i64 (uF q)),(6,.gd true (.bool false))] []:=fun e=>by
     rw [e] at hfl
     cases hfl
     exact hF _ _ rfl
    refine ⟨by omega,⟨fun v hv=>?_,by simp;omega⟩,by simpa using hpos,trivial,fun _=>⟨c3,c4,op,ag,hg,(fun hn=>by cases hn),fun _=>⟨s.f,s.fr,s.ys,s.rm,s.ts,rfl,s.f,rfl,hmo,hss,z1,ht,fun o eo es ees g eg ok eok x ex=>?_⟩⟩⟩
    ·have hv:v∈q.map (V.int .i64):=hv
     obtain ⟨n,_,rfl⟩:=List.mem_map.1 hv
     exact ⟨n,rfl⟩
    have eo:o=o':=eo.trans z2
    have ees:es=edV es':=ees.trans z3
    have eg:g=g':=eg.trans z4
    have eok:ok=ok':=eok.trans z5
    subst eo ees eg eok
    obtain ⟨n1,n2⟩:=nb ex
    refine ⟨fun hx=>hbad (m':=m) (q':=uS q (uF q)) (by unfold uU;rw [if_pos (n1 hx)]),fun hx=>⟨fun hgt x' ex'=>?_,fun hgf=>⟨(fun e=>by cases e),fun _ _ x' ex'=>⟨uJ _,uI _,rfl,rfl,ex',es',m,uS q (uF q),rfl,rfl,rfl,hc,z7,hm,by omega,by omega, ?_⟩⟩⟩⟩
    ·rw [wrap_le c3 (by omega)] at ex'
     subst ex'
     have hco:=tQ (fm:=fm) (tm:=tm) (q:=uS q (uF q)) (i:=uF q+1) (s:=o) hm z6
     refine ⟨m,uS q (uF q),o.f,rfl,rfl,rfl,⟨hm,by omega⟩,by omega,z6,by omega,by omega,fun z ez y ey=>?_⟩
     have ez:z=uA fm tm m (uS q (uF q)) (uF q+1) o:=ez
     obtain ⟨y1,y2⟩:=nb ey
     have hok:ok=true:=n2 hx
     refine ⟨fun hy=>hbad (m':=m) (q':=uS q (uF q)) ?_,fun hy _ x' ex'=>⟨uJ _,uI _,rfl,rfl,ex',es',z.2.1,z.2.2,rfl,rfl,rfl,hc,z7,by rw [ez];exact hco.1,by rw [ez];have:=hco.2.1;omega,by rw [ez];have:=hco.2.2;omega, ?_⟩⟩
     ·have:=y1 hy
      rw [ez] at this
      unfold uU
      rw [if_neg (by show ¬ok=false;rw [hok];decide),if_pos hgt,if_neg (by rw [this];decide)]
     ·have hstep:uU co fm tm (uF q) (o,es',g,ok) m (uS q (uF q))=uG co fm tm es' z.2.1 z.2.2:=by
       have:=y2 hy
       rw [ez] at this ⊢
       unfold uU
       rw [if_neg (by show ¬ok=false;rw [hok];decide),if_pos hgt,if_pos this]
      refine ⟨fun m' q' he' hm' x ex=>⟨fun hx=>⟨uJ _,uI _,(k',m',q'),rfl,rfl,Nat.lt_succ_self _,hm',hfin m' q' ?_⟩,fun hx=>⟨uJ _,uI _,(k',m',q'),rfl,rfl,Nat.lt_succ_self _,hm',hfin m' q' ?_⟩⟩,fun m' q' he'=>hbad (m':=m') (q':=q') ?_⟩
      ·rw [hstep,he']
      ·rw [hstep,he']
      ·rw [hstep,he']
    ·have hok:ok=true:=n2 hx
     have hstep:uU co fm tm (uF q) (o,es',g,ok) m (uS q (uF q))=uG co fm tm es' m (uS q (uF q)):=by
      unfold uU
      rw [if_neg (by show ¬ok=false;rw [hok];decide),if_neg (by show ¬g=true;rw [hgf];decide)]
     refine ⟨fun m' q' he' hm' x ex=>⟨fun hx=>⟨uJ _,uI _,(k',m',q'),rfl,rfl,Nat.lt_succ_self _,hm',hfin m' q' ?_⟩,fun hx=>⟨uJ _,uI _,(k',m',q'),rfl,rfl,Nat.lt_succ_self _,hm',hfin m' q' ?_⟩⟩,fun m' q' he'=>hbad (m':=m') (q':=q') ?_⟩
     ·rw [hstep,he']
     ·rw [hstep,he']
     ·rw [hstep,he']
   ·have hq:q=[]:=by
     cases q with
     |nil=>rfl
     |cons a r=>rw [h3] at e3;have:=of_decide_eq_false e3.symm;simp only [List.length_cons] at this;omega
    subst hq
    rw [flowN_nil] at hflow
    cases hflow
    exact ⟨uJ _,uI _,hT m rfl hm⟩
 ·exact h.elim
theorem lp16a:LsOk Try.prog 135 1037 [2,3,7,45,46,47] [1000,1001,1024,1025,1027,1034] ent16a (zP Try.f16 0).2:=by
 intro vs ks K h
 unfold ent16a at h
 split at h
 ·rename_i ln n i am im ex fu li co fm tm en ar st fr pt x y
  obtain ⟨rfl,rfl,rfl,rfl,hxx,rfl,rfl,rfl,h0,h1,hT,hF⟩:=h
  have hxx:=hxx.symm
  subst hxx
  have hw:IntKind.i64.wrap (fm+2)=fm+2:=by rw [IntKind.wrap_i64];omega
  refine zT (hints:=zB) (prs:=zN Try.f16) (Ls:=noLs) sp16_ok ends16_0 (γ:=Int×SM×List Int)
   (fun g'=>[.ptr 1000 0 [],.ptr 1001 0 [],.ptr 1027 0 [],.sl 1034 2,.int .i64 2,.int .i64 g'.1])
   (fun g'=>[⟨none,false,.agg [.list false am,.list false im,.list false ex,.list false fu,.list false li,.list false co]⟩,⟨none,false,.agg [.int .i64 fm,.int .i64 tm,.int .i64 en,.int .i64 ar]⟩,⟨some 48,false,.own 48 (stV g'.2.1)⟩,⟨some 65,false,.own 65 (frV g'.2.2)⟩,⟨none,false,wkV fm tm en ar 1024 1025⟩,⟨some 3,false,.agg [.int .i64 fm,.int .i64 (IntKind.i64.wrap (fm+2))]⟩])
   (fun g'=>(2-g'.1).toNat) (fun g'=>uO g'.2.1∧g'.2.1.length≤100∧g'.2.2.length≤100∧((g'.1=0∧g'.2=([],[]))∨(g'.1=1∧uA fm tm [] [] fm (tM ar)=(true,g'.2)∧g'.2.1.length≤1∧g'.2.2.length≤1)∨(g'.1=2∧uP fm tm ar=(true,g'.2)))) K (zK (by kernel_rfl)) ?_ (0,[],[]) ⟨fun p hp=>(by cases hp),by decide,by decide,.inl ⟨rfl,rfl⟩⟩
  rintro ⟨i,m1,q1⟩ ⟨hm,hl1,hl2,hI⟩
  simp only at hm hl1 hl2 hI
  refine (nl16_0 am im ex fu li co fm tm en ar m1 q1 _ _ 2 i _ _ _).mpr ?_
  intro x0 e0
  subst e0
  rcases hI with ⟨rfl,e⟩|⟨rfl,e,hl3,hl4⟩|⟨rfl,e⟩
  ·cases e
   refine ⟨fun _=>⟨rfl,Int.le_refl _,by decide,rfl,fm,rfl,rfl,rfl,fun f ef=>?_⟩,fun h=>by cases h⟩
   subst ef
   have hco:=tQ (fm:=fm) (tm:=tm) (q:=[]) (i:=fm) (s:=tM ar) hm (ent_ok ar)
   refine ⟨[],[],_,rfl,rfl,rfl,⟨hm,by decide⟩,by decide,ent_ok ar,by omega,by omega,fun z ez y ey=>?_⟩
   have ez:z=uA fm tm [] [] fm (tM ar):=ez
   obtain ⟨y1,y2⟩:=nb ey
   refine ⟨fun hy=>hF z.2.1 z.2.2 ?_,fun hy x15 e15=>⟨uJ _,uI _, ?_,(1,z.2.1,z.2.2), ?_,rfl,(by show (1:Nat)<2;decide), ?_, ?_, ?_,.inr (.inl ⟨rfl, ?_, ?_, ?_⟩)⟩⟩
   ·have:=y1 hy
    rw [ez] at this
    unfold uP
    rw [if_neg (by rw [this];decide),←ez,←y1 hy]
   ·exact fun v hv=>by
     rcases List.mem_cons.1 hv with rfl|hv
     ·rfl
     ·rcases List.mem_cons.1 hv with rfl|hv
      ·rfl
      ·cases hv
   ·rw [e15];rfl
   ·show uO z.2.1
    rw [ez];exact hco.1
   ·show z.2.1.length≤100
    rw [ez];have:=hco.2.1;simp at this ⊢;omega
   ·show z.2.2.length≤100
    rw [ez];have:=hco.2.2;simp at this ⊢;omega
   ·show uA fm tm [] [] fm (tM ar)=(true,z.2)
    rw [←ez,←y2 hy]
   ·show z.2.1.length≤1
    rw [ez];have:=hco.2.1;simp at this ⊢;omega
   ·show z.2.2.length≤1
    rw [ez];have:=hco.2.2;simp at this ⊢;omega
  ·refine ⟨fun _=>⟨rfl,by decide,by decide,rfl,IntKind.i64.wrap (fm+2),rfl,rfl,rfl,fun f ef=>?_⟩,fun h=>by cases h⟩
   subst ef
   have hs1:uP fm tm ar=uA fm tm m1 q1 (IntKind.i64.wrap (fm+2)) (tM ar):=by
    unfold uP
    rw [e,if_pos rfl]
   have hco:=tQ (fm:=fm) (tm:=tm) (q:=q1) (i:=IntKind.i64.wrap (fm+2)) (s:=tM ar) hm (ent_ok ar)
   refine ⟨m1,q1,_,rfl,rfl,rfl,⟨hm,by omega⟩,by omega,ent_ok ar,by rw [hw];omega,by rw [hw];omega,fun z ez y ey=>?_⟩
   have ez:z=uA fm tm m1 q1 (IntKind.i64.wrap (fm+2)) (tM ar):=ez
   obtain ⟨y1,y2⟩:=nb ey
   refine ⟨fun hy=>hF z.2.1 z.2.2 ?_,fun hy x15 e15=>⟨uJ _,uI _, ?_,(2,z.2.1,z.2.2), ?_,rfl,(by show (0:Nat)<1;decide), ?_, ?_, ?_,.inr (.inr ⟨rfl, ?_⟩)⟩⟩
   ·rw [hs1,←ez,←y1 hy]
   ·exact fun v hv=>by
     rcases List.mem_cons.1 hv with rfl|hv
     ·rfl
     ·rcases List.mem_cons.1 hv with rfl|hv
      ·rfl
      ·cases hv
   ·rw [e15];rfl
   ·show uO z.2.1
    rw [ez];exact hco.1
   ·show z.2.1.length≤100
    rw [ez];have:=hco.2.1;omega
   ·show z.2.2.length≤100
    rw [ez];have:=hco.2.2;omega
   ·show uP fm tm ar=(true,z.2)
    rw [hs1,←ez,←y2 hy]
  ·refine ⟨(fun h=>by cases h),fun _=>⟨uJ _,uI _,hT m1 q1 e hm⟩⟩
 ·exact h.elim
def mapR (z:Bool×Int×SM):V:=if z.1=true then .own 48 [.list false (stV z.2.2)] else .own 0 []
theorem c16 (am im ex fu li co:List V) (fm tm en ar:Int) (E:EF) (k:Nat) (res:Bool×Int×SM) (hE:EFOk ⟨am,im,ex,fu,li,co⟩ E) (hm:MOk ⟨am,im,ex,fu,li,co⟩) (hc:uB co) (h:uY E co fm tm ar k=some res):
  CallP Try.prog 16 [.agg [.list false am,.list false im,.list false ex,.list false fu,.list false li,.list false co],.agg [.int .i64 fm,.int .i64 tm,.int .i64 en,.int .i64 ar]] (.tup [mapR res,.int .i64 res.2.1,.bool res.1]):=by
 refine call_loops sp16_ok Try.func16 Try.ntmps16 (by kernel_rfl) (zR fun p hp=>?_) ((n16 am im ex fu li co fm tm en ar _).mpr ?_)
 ·have e:loopsOf 0 (zC Try.f16)=[zP Try.f16 0,zP Try.f16 1]:=by kernel_rfl
  rw [e] at hp
  simp only [List.mem_cons,List.not_mem_nil,or_false] at hp
  rcases hp with rfl|rfl
  ·exact zU lp16a
  ·exact lsAdd_miss (by kernel_rfl) (zU lp16b)
 have hcl:=hc.2
 have bad:(if fm<0 then true else if tm<fm then true else decide (tm>co.length))=true→V.tup [mapR res,.int .i64 res.2.1,.bool res.1]=V.tup [.own 0 [],.int .i64 0,.bool false]:=fun hb=>by
  unfold uY at h
  rw [if_pos hb] at h
  cases h
  rfl
 intro x0 e0
 refine ⟨fun h0=>bad (by rw [h0] at e0;rw [if_pos (of_decide_eq_true e0.symm)]),fun h0 x4 e4=>⟨fun h4=>bad ?_,fun h4 _ x9 e9 x11 e11=>⟨fun h11=>bad ?_,fun h11=>⟨trivial,fun _=>⟨trivial,fun _ x17 e17=>?_⟩⟩⟩⟩⟩
 ·rw [h4] at e4
  split
  ·rfl
  ·rw [if_pos (of_decide_eq_true e4.symm)]
 ·rw [h11,e9] at e11
  split
  ·rfl
  ·split
   ·rfl
   ·exact e11.symm
 have g0:¬fm<0:=by rw [h0] at e0;exact of_decide_eq_false e0.symm
 have g1:¬tm<fm:=by rw [h4] at e4;exact of_decide_eq_false e4.symm
 have g2:¬tm>co.length:=by rw [h11,e9] at e11;exact of_decide_eq_false e11.symm
 unfold uY at h
 rw [if_neg (by rw [if_neg g0,if_neg g1];simpa using g2)] at h
 refine ⟨rfl,fun _ x20 e20=>⟨(fun v hv=>by cases hv),(fun v hv=>by cases hv),fun v hv=>?_,rfl,rfl,e20,rfl,rfl,e17,rfl,rfl,by omega,by omega,fun m q hs hms=>?_,fun m q hs=>?_⟩⟩
 ·rcases List.mem_cons.1 hv with rfl|hv
  ·rfl
  ·rcases List.mem_cons.1 hv with rfl|hv
   ·rfl
   ·cases hv
 ·rw [hs,if_pos rfl] at h
  refine ⟨uJ _,uI _,rfl,E,k,m,q,res,rfl,rfl,hE,hm,hc,hms,h,fun m' e _=>?_,fun a m' e=>?_⟩
  ·subst e;rfl
  ·subst e;rfl
 ·rw [hs,if_neg (fun e=>by cases e)] at h
  cases h
  rfl
end GoL
