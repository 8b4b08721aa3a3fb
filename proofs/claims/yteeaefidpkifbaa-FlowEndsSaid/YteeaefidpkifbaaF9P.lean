/- A part of the proof: a logic proved sound over the model; contracts; plain laws. -/
import Derived.Test.YteeaefidpkifbaaF9N
set_option linter.all false
open Go Go.Proofs
namespace GoL
set_option maxRecDepth 8000
attribute [local irreducible] wC
theorem sp3_ok:SpOk Try.prog sp3:=zA b5_ok (zA b6_ok (zA b7_ok (zA b8_ok (zA b9_ok (zA b10_ok (zD))))))
theorem sB:∀(a:List Nat) (i n:Nat),codeF i (a++[n])=codeF i a++(hdA (i+a.length)::hdB (i+a.length)::hdC (i+a.length)::List.replicate n o11)
 |[],i,n=>by simp [codeF]
 |m::r,i,n=>by
  have:=sB r (i+1) n
  have e:i+1+r.length=i+(r.length+1):=by omega
  rw [e] at this
  simp only [List.cons_append,codeF,this,List.append_assoc,List.length_cons]
theorem tC:∀(a:List Nat) (i n:Nat),(codeF i (n::a)).length=3+n+(codeF (i+1) a).length:=fun a i n=>by
 simp only [codeF,List.length_cons,List.length_append,List.length_replicate];omega
theorem atF_app:∀(a:List Nat) (i n:Nat) (p:Int),atF p (a++[n])=atF p a++[.int .i64 (p+(codeF i a).length)]
 |[],i,n,p=>by simp [codeF,atF]
 |m::r,i,n,p=>by
  have:=atF_app r (i+1) n (p+3+m)
  rw [List.cons_append,atF,this,atF,List.cons_append,tC]
  congr 4
  omega
theorem tI:∀(a:List Nat) (i:Nat),(∀n∈a,n≤4)→(codeF i a).length≤7*a.length
 |[],i,_=>by simp [codeF]
 |n::r,i,h=>by
  have h1:=tI r (i+1) fun m hm=>h m (List.mem_cons_of_mem _ hm)
  have h2:=h n (by simp)
  rw [tC,List.length_cons];omega
theorem codeF_ge:∀(a:List Nat) (i:Nat),3*a.length≤(codeF i a).length
 |[],i=>by simp
 |n::r,i=>by have:=codeF_ge r (i+1);rw [tC,List.length_cons];omega
theorem tB:∀(a:List Nat) (i:Nat),(codeF i a).all tG=true
 |[],i=>rfl
 |n::r,i=>by
  have h1:=tB r (i+1)
  simp only [codeF,List.all_cons,List.all_append,h1,List.all_replicate]
  have:tG o11=true:=rfl
  rw [this]
  split<;>rfl
theorem ids_ins {v:V} (h:tG v=true):V.ids v=[]:=by
 unfold tG at h
 split at h
 ·rename_i op ag
  rw [List.all_eq_true] at h
  rfl
 ·cases h
theorem uN {l:List V} (h:l.all tG=true):∀v,List.Mem v l→V.ids v=[]:=fun v hv=>ids_ins (List.all_eq_true.1 h v hv)
theorem sz_ins {v:V} (h:tG v=true):V.sz v=2:=by
 unfold tG at h
 split at h
 ·rfl
 ·cases h
theorem sz_all {l:List V} (h:l.all tG=true):∀v,List.Mem v l→V.sz v=2:=fun v hv=>sz_ins (List.all_eq_true.1 h v hv)
theorem tO:∀(a:List Nat) (p:Int),(atF p a).length=a.length
 |[],p=>rfl
 |n::r,p=>by rw [atF,List.length_cons,tO r,List.length_cons]
theorem tP:∀(a:List Nat) (p:Int),NLs (atF p a)
 |[],p=>fun v hv=>by cases hv
 |n::r,p=>fun v hv=>by
  rcases List.mem_cons.1 hv with rfl|hv
  ·exact ⟨_,rfl⟩
  ·exact tP r _ v hv
theorem uV {l:List V} (h:NLs l):∀v,List.Mem v l→V.ids v=[]:=fun v hv=>by
 obtain ⟨n,rfl⟩:=h v hv;rfl
theorem nF_le (xs:List V):∀n∈nF xs,n≤4:=fun n hn=>by
 unfold nF at hn
 obtain ⟨v,_,rfl⟩:=List.mem_map.1 hn
 obtain ⟨h1,h2⟩:=tT (x:=numI v) (n:=5) (by decide) (by decide)
 omega
theorem take_one {xs:List V} {i:Nat} (h:i<xs.length):List.take (i+1) xs=List.take i xs++[getV xs i]:=by
 rw [List.take_succ,List.getElem?_eq_getElem h]
 unfold getV
 simp [h]
theorem nF_one {xs:List V} {i:Nat} (h:i<xs.length):nF (List.take (i+1) xs)=nF (List.take i xs)++[(place (numI (getV xs i)) 5).toNat]:=by
 rw [take_one h]
 unfold nF
 rw [List.map_append]
 rfl
theorem nF_len (xs:List V):(nF xs).length=xs.length:=by unfold nF;simp
theorem rep_ok (n:Nat):(List.replicate n o11).all tG=true:=by
 rw [List.all_replicate]
 have:tG o11=true:=rfl
 rw [this]
 split<;>rfl
theorem app_ids {l:List V} {n:Nat} (h:∀v,List.Mem v l→V.ids v=[]):∀v,List.Mem v (l++List.replicate n o11)→V.ids v=[]:=fun v hv=>by
 rcases List.mem_append.1 hv with hv|hv
 ·exact h v hv
 ·exact uN (rep_ok n) v hv
theorem lp3i:LsOk Try.prog 196 1043 [0,1,5,6,7,8] [1004,1005] ent3i (lin (zP Try.f3 0) 0).2:=by
 intro vs ks K h
 unfold ent3i at h
 split at h
 ·rename_i xs how a b i j cs ts
  obtain ⟨rfl,rfl,rfl,hx,h0,h1,hc,hi1,hi2,hk⟩:=h
  obtain ⟨n,hn⟩:=hx _ (getV_memL h0 h1)
  have en:numI (getV xs i)=n:=by rw [hn];rfl
  rw [en] at hk
  obtain ⟨q1,q2⟩:=tT (x:=n) (n:=5) (by decide) (by decide)
  have hL:=zT (N:=196) (c:=(lin (zP Try.f3 0) 0).2) (hints:=zB) (prs:=zN Try.f3) (Ls:=noLs) sp3_ok ends3_1 (γ:=Nat)
   (fun j=>[.list false xs,.int .i64 how,.sl 1004 (cs++List.replicate j o11).length,.sl 1005 ts.length,.int .i64 i,.int .i64 (j:Int)])
   (fun j=>[⟨some 26,false,.agg (cs++List.replicate j o11)⟩,⟨some 3,false,.agg ts⟩]) (fun j=>5-j) (fun j=>j≤(place n 5).toNat) K (zK (by kernel_rfl)) (fun j hj=>by
    have hids:=app_ids (n:=j) hi1
    refine (nl3_1 xs (cs++List.replicate j o11) ts how i j _ _ _).mpr ⟨h0,h1,n,hn,by decide,fun x e=>⟨fun h=>?_,fun h=>?_⟩⟩
    ·have hlt:(j:Int)<place n 5:=by rw [h] at e;exact of_decide_eq_true e.symm
     have hl:(cs++List.replicate j o11).length≤1005:=by rw [List.length_append,List.length_replicate];omega
     have er:cs++List.replicate j o11++[o11]=cs++List.replicate (j+1) o11:=by rw [List.append_assoc,List.replicate_succ']
     refine ⟨⟨fun v hv=>(by cases hv),by decide⟩,⟨rfl,rfl,⟨rfl,trivial⟩,fun v hv=>(by cases hv with|head=>rfl|tail _ h=>cases h),rfl,rfl,32,rfl,by show ((cs++List.replicate j o11).length+1)*32≤_;omega,by show (cs++List.replicate j o11).length+1≤_;omega⟩,fun _ x10 e10=>⟨?_,hi2,j+1, ?_, ?_,by show 5-(j+1)<5-j;omega,by show j+1≤_;omega⟩⟩
     ·rw [er];exact app_ids hi1
     ·have e1:(cs++List.replicate j o11).length+[o11].length=(cs++List.replicate (j+1) o11).length:=by rw [←er,List.length_append (bs:=[o11])]
      have e2:x10=((j+1:Nat):Int):=by rw [e10,wrap_le (by omega) (by omega)];rfl
      rw [e1,e2]
     ·rw [er]
    ·have hge:¬(j:Int)<place n 5:=by rw [h] at e;exact of_decide_eq_false e.symm
     have ej:j=(place n 5).toNat:=by have hj:j≤(place n 5).toNat:=hj;omega
     exact ⟨hids,hi2,by rw [ej];exact hk _ rfl⟩) 0 (Nat.zero_le _)
  have e0:cs++List.replicate 0 o11=cs:=by simp
  simp only [e0] at hL
  exact hL
 ·exact h.elim
theorem lp3a:LsOk Try.prog 196 1004 [0,1,5,6,7] [] ent3a (zP Try.f3 0).2:=by
 intro vs ks K h
 unfold ent3a at h
 split at h
 ·rename_i xs how i
  obtain ⟨rfl,hx,hxl,hk⟩:=h
  refine TL_own (t:=5) (E:=26) rfl (TL_own (t:=6) (E:=3) rfl ?_)
  have hc:cutK 1006 [0,1,5,6,7] [1004,1005] (fun vs ks=>vs=[.list false xs,.int .i64 how,.sl 1004 0,.sl 1005 0,.int .i64 0]∧ks=[⟨some 26,false,.agg []⟩,⟨some 3,false,.agg []⟩]) 1006 ((6,.sl 1005 0)::(5,.sl 1004 0)::List.zip [0,1,5,6,7] [.list false xs,.int .i64 how,.nils,.nils,.int .i64 0]) ((1005,⟨some 3,false,.agg []⟩)::(1004,⟨some 26,false,.agg []⟩)::List.zip [] []):=⟨fun v hv=>(by cases hv),fun v hv=>(by cases hv),rfl,rfl⟩
  obtain ⟨vs,ks,⟨rfl,rfl⟩,hw⟩:=cutK_go hc
  have hL:=zT (N:=196) (c:=(zP Try.f3 0).2) (hints:=zB) (prs:=zN Try.f3) (Ls:=ls3i) sp3_ok ends3_0 (γ:=Nat)
   (fun i=>[.list false xs,.int .i64 how,.sl 1004 (codeF 0 (nF (List.take i xs))).length,.sl 1005 (atF 0 (nF (List.take i xs))).length,.int .i64 (i:Int)])
   (fun i=>[⟨some 26,false,.agg (codeF 0 (nF (List.take i xs)))⟩,⟨some 3,false,.agg (atF 0 (nF (List.take i xs)))⟩]) (fun i=>10-i) (fun i=>i≤10∧i≤xs.length) K (zR fun p hp=>by
    have e:loopsOf 0 (zP Try.f3 0).2=[(2,(lin (zP Try.f3 0) 0).2)]:=by kernel_rfl
    have hp:p∈loopsOf 0 (zP Try.f3 0).2:=hp
    rw [e] at hp
    simp only [List.mem_singleton] at hp
    subst hp
    exact zU lp3i) (fun i hi=>by
    obtain ⟨i1,i2⟩:=hi
    have hl0:=tI (nF (List.take i xs)) 0 (nF_le _)
    have hl1:(nF (List.take i xs)).length=i:=by rw [nF_len,List.length_take];omega
    have hl2:=tO (nF (List.take i xs)) 0
    have hok:=tB (nF (List.take i xs)) 0
    have hnl:=tP (nF (List.take i xs)) 0
    have hap:=sB (nF (List.take i xs)) 0 (place (numI (getV xs i)) 5).toNat
    have haq:=atF_app (nF (List.take i xs)) 0 (place (numI (getV xs i)) 5).toNat 0
    have hfin:((i:Int)<(xs.length:Int)→¬(i:Int)<10)→List.take 10 xs=List.take i xs:=fun h=>by
     by_cases e:i=10
     ·rw [e]
     ·have:i=xs.length:=by omega
      rw [List.take_of_length_le (by omega),List.take_of_length_le (by omega)]
    have hN:=nF_one (xs:=xs) (i:=i)
    generalize hcs:codeF 0 (nF (List.take i xs))=cs at*
    generalize hts:atF 0 (nF (List.take i xs))=ts at*
    have hex:((i:Int)<(xs.length:Int)→¬(i:Int)<10)→K (.exit 0) 1006 [(0,.list false xs),(1,.int .i64 how),(5,.sl 1004 cs.length),(6,.sl 1005 ts.length)] [(1004,⟨some 26,false,.agg cs⟩),(1005,⟨some 3,false,.agg ts⟩)]:=fun h=>hk cs ts (by rw [hfin h,hcs]) (by rw [hfin h,hts])
    refine (nl3_0 xs cs ts how i _ _ _).mpr ?_
    intro _ x1 e1 x3 e3
    subst e1
    refine ⟨fun h3=>fun x6 e6=>⟨fun h6=>?_,fun h6=>⟨uN hok,uV hnl,hex fun _=>by rw [h6] at e6;exact of_decide_eq_false e6.symm⟩⟩,fun h3=>⟨uN hok,uV hnl,hex fun hh=>absurd hh (by rw [h3] at e3;exact of_decide_eq_false e3.symm)⟩⟩
    have hlt:(i:Int)<xs.length:=by rw [h3] at e3;exact of_decide_eq_true e3.symm
    have hlt':i<xs.length:=by omega
    have h10:(i:Int)<10:=by rw [h6] at e6;exact of_decide_eq_true e6.symm
    have w1:IntKind.wrap IntKind.i64 (2*(i:Int))=2*i:=by rw [IntKind.wrap_i64];omega
    have w2:IntKind.wrap IntKind.i64 (2*(i:Int)+1)=2*i+1:=by rw [IntKind.wrap_i64];omega
    have w3:IntKind.wrap IntKind.i64 (2*(i:Int)+2)=2*i+2:=by rw [IntKind.wrap_i64];omega
    refine ⟨rfl,fun _ x10 e10=>⟨⟨rfl,rfl,⟨rfl,rfl⟩,fun v hv=>(by cases hv with|head=>rfl|tail _ h=>cases h),rfl,rfl,8,rfl,by show (ts.length+1)*8≤_;omega,by show ts.length+1≤_;omega⟩,fun _ x16 e16 x18 e18=>⟨⟨szL rfl,by show (1:Nat)≤1000;decide⟩,⟨szL rfl,by show (3:Nat)≤1000;decide⟩,fun x24 e24 x26 e26=>⟨⟨szL rfl,by show (1:Nat)≤1000;decide⟩,⟨rfl,rfl,⟨rfl,trivial⟩,sz_all (l:=hdL x18 i x26) rfl,rfl,rfl,32,rfl,by show (cs.length+3)*32≤_;omega,by show cs.length+3≤_;omega⟩,fun _=>?_⟩⟩⟩⟩
    rw [w1] at e16 e24
    subst e16 e24
    rw [w2] at e18
    rw [w3] at e26
    subst e18 e26 e10
    have eh:hdL (2*(i:Int)+1) i (2*(i:Int)+2)=[hdA i,hdB i,hdC i]:=rfl
    have hc2:(cs++hdL (2*(i:Int)+1) i (2*(i:Int)+2)).all tG=true:=by
     rw [List.all_append,hok];rfl
    have hn2:NLs (ts++[.int .i64 (cs.length:Int)]):=fun v hv=>by
     rcases List.mem_append.1 hv with hv|hv
     ·exact hnl v hv
     ·exact ⟨_,by simpa using hv⟩
    refine ⟨uN hc2,uV hn2,by rw [List.length_append],by rw [List.length_append],rfl,hx,Int.natCast_nonneg _,hlt,by rw [List.length_append];show cs.length+3≤1000;omega,uN hc2,uV hn2,fun cs' ecs x44 e44=>?_⟩
    have ec:cs'=codeF 0 (nF (List.take (i+1) xs)):=by
     rw [hN hlt',hap,ecs,eh,Nat.zero_add,hl1,List.append_assoc];rfl
    have et:ts++[V.int IntKind.i64 (cs.length:Int)]=atF 0 (nF (List.take (i+1) xs)):=by
     rw [hN hlt',haq,Int.zero_add]
    have e44':x44=((i+1:Nat):Int):=by rw [e44,wrap_le (by omega) (by omega)];rfl
    refine ⟨by rw [ec];exact uN (tB _ 0),uV hn2,i+1, ?_, ?_,by show 10-(i+1)<10-i;omega,by omega,by omega⟩
    ·have:ts.length+[V.int IntKind.i64 (cs.length:Int)].length=(ts++[V.int IntKind.i64 (cs.length:Int)]).length:=by rw [List.length_append]
     rw [this,et,ec,e44']
    ·rw [et,ec]) 0 ⟨Nat.zero_le _,Nat.zero_le _⟩
  exact hL.weak hw
 ·exact h.elim
theorem gv_s (x:V) (l:List V) {i:Int} (h:0≤i):getV (x::l) (i+1)=getV l i:=by
 unfold getV
 have e:(i+1).toNat=i.toNat+1:=by omega
 rw [e]
 rfl
theorem tK:∀(ns:List Nat) (j:Nat) (p:Int),(partF j p ns).length=ns.length
 |[],_,_=>rfl
 |n::r,j,p=>by rw [partF,List.length_cons,tK r,List.length_cons]
theorem part_get:∀(ns:List Nat) (j:Nat) (p i:Int),0≤i→i<ns.length→∃a b:Int,getV (partF j p ns) i=.agg [.int .i64 a,.int .i64 b,.int .i64 (2*(j+i)+2),.int .i64 (j+i)]∧getV (atF p ns) i=.int .i64 a∧
  (i+1<ns.length→getV (atF p ns) (i+1)=.int .i64 b)∧(¬i+1<ns.length→b=p+(codeF j ns).length)
 |[],j,p,i,h0,h1=>by simp at h1;omega
 |n::r,j,p,i,h0,h1=>by
  rw [List.length_cons] at h1
  by_cases hi:i=0
  ·subst hi
   refine ⟨p,p+3+n, ?_,rfl,fun h=>?_,fun h=>?_⟩
   ·show V.agg _=_
    rw [Int.add_zero]
   ·rw [atF,gv_s _ _ (Int.le_refl 0)]
    cases r with
    |nil=>simp at h
    |cons m q=>rfl
   ·cases r with
    |nil=>rw [tC];simp [codeF];omega
    |cons m q=>simp at h;omega
  ·obtain ⟨k,rfl⟩:∃k,i=k+1:=⟨i-1,by omega⟩
   obtain ⟨a,b,q1,q2,q3,q4⟩:=part_get r (j+1) (p+3+n) k (by omega) (by omega)
   have ej:(((j+1:Nat):Int)+k)=(j:Int)+(k+1):=by omega
   rw [ej] at q1
   refine ⟨a,b, ?_, ?_,fun h=>?_,fun h=>?_⟩
   ·rw [partF,gv_s _ _ (by omega),q1]
   ·rw [atF,gv_s _ _ (by omega),q2]
   ·rw [atF,gv_s _ _ (by omega)];exact q3 (by rw [List.length_cons] at h;omega)
   ·rw [tC,q4 (by rw [List.length_cons] at h;omega)];omega
theorem nls_off {ws:List V} (h:NLs ws) {i:Int} (h0:0≤i) (h1:i<ws.length):offQ (.agg ws) [Int.toNat i]=Int.toNat i*1:=by
 have hlt:i.toNat<ws.length:=by omega
 show V.off (.agg ws) [i.toNat]=_
 simp only [V.off,List.getElem?_eq_getElem hlt]
 rw [szs_const (z:=1) (fun v hv=>by obtain ⟨m,rfl⟩:=h v (List.mem_of_mem_take hv);rfl),List.length_take]
 omega
theorem sG {ws:List V} {i:Int} (h0:0≤i) (h1:i<ws.length):subQ (.agg ws) [Int.toNat i]=some (getV ws i):=by
 have hlt:i.toNat<ws.length:=by omega
 show V.sub (.agg ws) [i.toNat]=_
 simp only [V.sub,List.getElem?_eq_getElem hlt]
 unfold getV
 simp [hlt]
theorem neF {x:Bool} {a b:Int} (e:x=(a != b)) (h:a=b) {P Q:Prop} (hq:Q):(x=true→P)∧(x=false→Q):=by
 subst h
 rw [bne_self_eq_false] at e
 subst e
 exact ⟨fun h=>(by cases h),fun _=>hq⟩
theorem lp3b:LsOk Try.prog 196 1034 [1,5,6,12,15] [1004,1005] ent3b (zP Try.f3 1).2:=by
 intro vs ks K h
 unfold ent3b at h
 split at h
 ·rename_i how a b ps i fz cs ts
  obtain ⟨rfl,rfl,rfl,ns,rfl,rfl,rfl,hn,h4,rfl,hk⟩:=h
  have hcl:=tI ns 0 h4
  have hok:=tB ns 0
  have hpl:=tK ns 0 0
  have hal:=tO ns 0
  have hnl:=tP ns 0
  have hpg:=part_get ns 0 0
  generalize codeF 0 ns=cs at*
  generalize atF 0 ns=ts at*
  generalize partF 0 0 ns=ps at*
  refine zT (N:=196) (c:=(zP Try.f3 1).2) (hints:=zB) (prs:=zN Try.f3) (Ls:=noLs) sp3_ok ends3_2 (γ:=Nat)
   (fun i=>[.int .i64 how,.sl 1004 cs.length,.sl 1005 ts.length,.list false ps,.int .i64 (i:Int)])
   (fun i=>[⟨some 26,true,.agg cs⟩,⟨some 3,false,.agg ts⟩]) (fun i=>10-i) (fun i=>i≤ns.length) K (zK (by kernel_rfl)) (fun i hi=>?_) 0 (Nat.zero_le _)
  have hi:i≤ns.length:=hi
  refine (nl3_2 cs ts ps how i _ _ _).mpr ?_
  intro _ x1 e1 x3 e3
  refine ⟨fun h3=>?_,fun _=>⟨uN hok,hk⟩⟩
  have hlt:(i:Int)<ps.length:=by rw [h3,e1] at e3;exact of_decide_eq_true e3.symm
  have hlt2:(i:Int)<ns.length:=by omega
  have hlt3:(i:Int)<ts.length:=by omega
  have w1:IntKind.wrap IntKind.i64 ((i:Int)+1)=i+1:=by rw [IntKind.wrap_i64];omega
  have w2:IntKind.wrap IntKind.i64 (2*(i:Int))=2*i:=by rw [IntKind.wrap_i64];omega
  have w3:IntKind.wrap IntKind.i64 (2*(i:Int)+2)=2*i+2:=by rw [IntKind.wrap_i64];omega
  obtain ⟨a,b,g1,g2,g3,g4⟩:=hpg i (by omega) hlt2
  have g1:getV ps i=.agg [.int .i64 a,.int .i64 b,.int .i64 (2*i+2),.int .i64 i]:=by
   rw [g1];simp
  have hnx:∀x:Int,x=IntKind.wrap IntKind.i64 ((i:Int)+1)→∃g':Nat,[V.int IntKind.i64 how,V.sl 1004 cs.length,V.sl 1005 ts.length,V.list false ps,V.int IntKind.i64 x]=[V.int IntKind.i64 how,V.sl 1004 cs.length,V.sl 1005 ts.length,V.list false ps,V.int IntKind.i64 (g':Int)]∧[(⟨some 26,true,.agg cs⟩:Blk),⟨some 3,false,.agg ts⟩]=[⟨some 26,true,.agg cs⟩,⟨some 3,false,.agg ts⟩]∧10-g'<10-i∧g'≤ns.length:=fun x e=>⟨i+1,by rw [e,w1];rfl,rfl,by omega,by omega⟩
  refine ⟨rfl,fun _ x7 e7 x9 e9=>⟨rfl,fun _ x12 e12 x14 e14=>?_⟩⟩
  rw [w1] at e9
  subst e9 e12
  refine ⟨fun h14 x17 e17=>?_,fun h14=>?_⟩
  ·have hl4:(i:Int)+1<ts.length:=by rw [h14] at e14;exact of_decide_eq_true e14.symm
   rw [w1] at e17
   subst e17
   refine ⟨rfl,by omega,hl4,rfl,b,by rw [sG (by omega) hl4,g3 (by omega)],rfl,nls_off hnl (by omega) hl4,by omega,hlt,_,_,_,_,g1,rfl,by omega,hlt3,rfl,a,by rw [sG (by omega) hlt3,g2],rfl,nls_off hnl (by omega) hlt3,fun x e=>neF e rfl ⟨by omega,hlt,_,_,_,_,g1,fun x e=>neF e rfl ⟨by omega,hlt,_,_,_,_,g1,fun x ex y ey z ez=>neF ez (by rw [ey,ex,w2,w3]) ⟨by omega,hlt,_,_,_,_,g1,fun x e=>neF e rfl fun x e=>⟨uN hok,uV hnl,hnx x e⟩⟩⟩⟩⟩
  ·have hl4:¬(i:Int)+1<ts.length:=by rw [h14] at e14;exact of_decide_eq_false e14.symm
   have eb:b=x7:=by rw [e7,g4 (by omega)];omega
   refine ⟨by omega,hlt,_,_,_,_,g1,rfl,by omega,hlt3,rfl,a,by rw [sG (by omega) hlt3,g2],rfl,nls_off hnl (by omega) hlt3,fun x e=>neF e rfl ⟨by omega,hlt,_,_,_,_,g1,fun x e=>neF e eb ⟨by omega,hlt,_,_,_,_,g1,fun x ex y ey z ez=>neF ez (by rw [ey,ex,w2,w3]) ⟨by omega,hlt,_,_,_,_,g1,fun x e=>neF e rfl fun x e=>⟨uN hok,uV hnl,hnx x e⟩⟩⟩⟩⟩
 ·exact h.elim
theorem c3 (xs:List V) (how:Int) (hx:NLs xs) (hl:xs.length≤9223372036854775807):CallP Try.prog 3 [.list false xs,.int .i64 how] (.bool true):=by
 refine call_loops sp3_ok Try.func3 Try.ntmps3 (by kernel_rfl) (zR fun p hp=>?_) ((n3 xs how _).mpr ?_)
 ·have e:loopsOf 0 (zC Try.f3)=[zP Try.f3 0,zP Try.f3 1]:=by kernel_rfl
  rw [e] at hp
  simp only [List.mem_cons,List.not_mem_nil,or_false] at hp
  rcases hp with rfl|rfl
  ·exact zU lp3a
  ·exact lsAdd_miss (by kernel_rfl) (zU lp3b)
 refine ⟨rfl,hx,hl,fun cs ts ec et=>?_⟩
 have h4:=nF_le (List.take 10 xs)
 have hn:(nF (List.take 10 xs)).length≤10:=by rw [nF_len,List.length_take];omega
 generalize nF (List.take 10 xs)=ns at*
 have hcl:=tI ns 0 h4
 have hok:=tB ns 0
 have hal:=tO ns 0
 have hnl:=tP ns 0
 have hpl:=tK ns 0 0
 rw [←ec] at hcl hok
 rw [←et] at hal hnl
 have ins (tl:List V) (h:tl.all tG=true) (hl:tl.length≤2):uB (cs++tl):=sA (by rw [List.all_append,hok,h];rfl) (by rw [List.length_append];omega)
 refine ⟨rfl,fun _ x5 e5 x7 e7=>⟨fun h7=>⟨sA (l:=[oE]) rfl (by decide),fun p ep x e=>⟨fun _=>rfl,fun h=>?_⟩⟩,fun h7=>⟨⟨rfl,rfl,⟨rfl,trivial⟩,by simp,sz_all (l:=[oE]) rfl,rfl,rfl,32,rfl,by show (cs.length+1)*32≤_;omega,by show cs.length+1≤_;omega⟩,fun _ x21 e21=>?_⟩⟩⟩
 ·subst ep
  rw [h] at e
  cases e
 subst e21
 have hne:ns≠[]:=fun e=>by
  subst e
  have:ts.length=0:=by rw [hal];rfl
  rw [e5,this] at e7
  rw [h7] at e7
  cases e7
 have run (tl:List V) (htl:tl=[]∨tl=[oE]∨tl=[oE,o11]):endP tl (uK (cs++tl)) (partF 0 0 ns) cs.length:=by
  have hge:=codeF_ge ns 0
  have:=parts_run tl htl ns [] 0 ((cs++tl).length+1) [] hne (by omega) (by rw [List.length_append,ec];omega)
  rw [List.nil_append,List.nil_append,←ec] at this
  have e0:((List.length ([]:List V):Nat):Int)=0:=rfl
  rw [e0,Int.zero_add] at this
  exact this
 have r1:=run [oE] (.inr (.inl rfl))
 have q1:uK (cs++[oE])=(partF 0 0 ns,0,true):=by
  rcases r1 with ⟨h,_⟩|⟨_,h⟩|⟨h,_⟩
  ·cases h
  ·exact h
  ·cases h
 refine ⟨ins _ rfl (by decide),fun p ep x e=>?_⟩
 rw [q1] at ep
 subst ep
 have e:x=false:=e
 refine ⟨fun h=>(by rw [h] at e;cases e),fun _ x29 e29=>neF e29 rfl fun _ x34 e34=>⟨rfl,fun _ x37 e37 x39 e39=>neF e39 (by rw [e34,e37];show ((partF 0 0 ns).length:Int)=_;omega) ⟨uN hok,uV hnl,rfl,rfl,rfl,ns,ec,et,rfl,hn,h4,rfl,⟨⟨rfl,rfl⟩,sz_all hok,rfl,rfl,32,rfl,by omega,by omega⟩,fun _=>⟨⟨rfl,by decide⟩,fun _ x56 e56 x58 e58=>⟨fun _=>⟨⟨fun v hv=>(by cases hv),by decide⟩,⟨rfl,rfl,⟨rfl,trivial⟩,sz_all (l:=[oE,o11]) rfl,rfl,rfl,32,rfl,by show (cs.length+2)*32≤_;omega,by show cs.length+2≤_;omega⟩,fun _=>⟨by rw [List.length_append],ins _ rfl (by decide),fun p ep x ex=>?_⟩⟩,fun _=>⟨rfl,by have:=ins [] rfl (by decide);rw [List.append_nil] at this;exact this,fun p ep x ex=>?_⟩⟩⟩⟩⟩⟩
 ·have q2:uK (cs++[oE,o11])=([],(cs.length:Int),false):=by
   rcases run [oE,o11] (.inr (.inr rfl)) with ⟨h,_⟩|⟨h,_⟩|⟨_,h⟩
   ·cases h
   ·cases h
   ·exact h
  rw [q2] at ep
  subst ep
  have ex:x=true:=ex
  refine ⟨fun _ _ y ey z ez=>?_,fun h=>(by rw [h] at ex;cases ex)⟩
  subst ey
  have ez:z=true:=ez
  refine ⟨fun _=>⟨rfl,fun _ y ey z ez=>?_⟩,fun h=>(by rw [h] at ez;cases ez)⟩
  subst ey
  rw [beq_self_eq_true] at ez
  exact ⟨fun _=>rfl,fun h=>(by rw [h] at ez;cases ez)⟩
 ·have q2:uK cs=([],(cs.length:Int),false):=by
   have:=run [] (.inl rfl)
   rw [List.append_nil] at this
   rcases this with ⟨_,h⟩|⟨h,_⟩|⟨h,_⟩
   ·exact h
   ·cases h
   ·cases h
  rw [q2] at ep
  subst ep
  have ex:x=true:=ex
  refine ⟨fun _ _ y ey z ez=>?_,fun h=>(by rw [h] at ex;cases ex)⟩
  subst ey
  have ez:z=true:=ez
  refine ⟨fun _=>⟨rfl,fun _ y ey z ez=>?_⟩,fun h=>(by rw [h] at ez;cases ez)⟩
  subst ey
  rw [beq_self_eq_true] at ez
  exact ⟨fun _=>rfl,fun h=>(by rw [h] at ez;cases ez)⟩
end GoL
