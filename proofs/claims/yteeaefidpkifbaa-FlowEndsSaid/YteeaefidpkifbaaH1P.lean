/- A part of the proof: a logic proved sound over the model; contracts; plain laws. -/
import Derived.Test.YteeaefidpkifbaaH1N
import Derived.Test.YteeaefidpkifbaaOP
set_option linter.all false
open Go Go.Proofs
namespace GoL
set_option maxRecDepth 8000
attribute [local irreducible] wC
theorem dec_true {p:Prop} (h:p):dec p=true:=by unfold dec;exact @decide_eq_true p (Classical.propDecidable p) h
theorem dec_false {p:Prop} (h:¬p):dec p=false:=by unfold dec;exact @decide_eq_false p (Classical.propDecidable p) h
theorem dec_T:dec True=true:=dec_true trivial
theorem dec_F:dec False=false:=dec_false (fun h=>h)
theorem dec_iff {p:Prop}:dec p=true↔p:=by
 refine ⟨fun h=>?_,dec_true⟩
 by_cases hp:p
 ·exact hp
 ·rw [dec_false hp] at h;cases h
theorem AllS_step {p:Int→Prop} {n d i:Int} (h:i<n):AllS p n d i↔p i∧AllS p n d (i+d):=by
 constructor
 ·intro H
  refine ⟨?_,fun m hm=>?_⟩
  ·have:=H 0 (by simpa using h)
   simpa using this
  ·have e:i+((m+1:Nat):Int)*d=i+d+m*d:=by
    have:((m+1:Nat):Int)=(m:Int)+1:=by omega
    rw [this,Int.add_mul,Int.one_mul];omega
   have:=H (m+1) (by rw [e];exact hm)
   rw [e] at this
   exact this
 ·rintro ⟨H0,H⟩ m hm
  cases m with
  |zero=>simpa using H0
  |succ m=>
   have e:i+((m+1:Nat):Int)*d=i+d+m*d:=by
    have:((m+1:Nat):Int)=(m:Int)+1:=by omega
    rw [this,Int.add_mul,Int.one_mul];omega
   rw [e] at hm ⊢
   exact H m hm
theorem AllS_stop {p:Int→Prop} {n d i:Int} (hd:0≤d) (h:n≤i):AllS p n d i:=fun m hm=>by
 have:0≤(m:Int)*d:=Int.mul_nonneg (by omega) hd
 omega
theorem ty28 {v:V} (h:T28 v):∃(t n:Int) (ls:List V),v=.agg [.int .i64 t,.int .i64 n,.list false ls]∧∀u∈ls,T28 u:=by
 cases h with
 |mk t n ls h=>exact ⟨t,n,ls,rfl,h⟩
theorem getV_mem {ks:List V} {i:Int} (h0:0≤i) (h:i<ks.length):getV ks i∈ks:=by
 have:i.toNat<ks.length:=by omega
 unfold getV
 rw [List.getD_eq_getElem?_getD,List.getElem?_eq_getElem this]
 exact List.getElem_mem this
theorem sp67_ok:SpOk Try.prog sp67:=zA b68_ok (zA b69_ok (zD))
theorem lp67:LsOk Try.prog 21 1000 [6,7,8] [] ent67 (zP Try.f67 0).2:=by
 intro vs ks K h
 unfold ent67 at h
 split at h
 ·rename_i ls n i
  obtain ⟨rfl,rfl,hl,ht,hK1,hK2⟩:=h
  refine zT (hints:=zB) (prs:=zO []) (Ls:=noLs) sp67_ok ends67_0 (γ:=Int) (fun i=>[.list false ls,.int .i64 ls.length,.int .i64 i]) (fun _=>[]) (fun i=>ls.length-i.toNat)
   (fun i=>0≤i∧(AllS (listP ls) ls.length 1 i→K (.exit 0) 1000 [] [])∧(¬AllS (listP ls) ls.length 1 i→K .ret 1000 [(2,.gd true (.bool false))] [])) K (zK (by kernel_rfl)) ?_ 0 ⟨by omega,hK1,hK2⟩
  rintro i ⟨h0,h1,h2⟩
  refine (nl67_0 ls _ i _ _ _).mpr ?_
  intro x hx;subst hx
  refine ⟨fun h9003=>?_,fun h9003=>?_⟩
  ·simp only [decide_eq_true_eq] at h9003
   obtain ⟨t,n,l,e,_⟩:=ty28 (ht _ (getV_mem h0 h9003))
   have hs:=AllS_step (p:=listP ls) (d:=1) h9003
   have hp:listP ls i↔(!plainB t n l)=false∧(!srcB t n)=false:=by
    unfold listP plainV srcV;rw [e];exact Iff.rfl
   refine ⟨h0,h9003,t,n,l,e,fun x hx=>⟨fun h9004=>?_,fun h9004 y hy=>⟨fun h9005=>?_,fun h9005 z hz=>?_⟩⟩⟩
   ·exact h2 fun hA=>by have:=(hp.1 (hs.1 hA).1).1;rw [←hx,h9004] at this;cases this
   ·exact h2 fun hA=>by have:=(hp.1 (hs.1 hA).1).2;rw [←hy,h9005] at this;cases this
   ·have hz':z=i+1:=by rw [hz,IntKind.wrap_i64];omega
    subst hz'
    have hpi:listP ls i:=hp.2 ⟨by rw [←hx,h9004],by rw [←hy,h9005]⟩
    refine ⟨i+1,rfl,rfl, ?_,by omega,fun hA=>h1 (hs.2 ⟨hpi,hA⟩),fun hA=>h2 fun hB=>hA (hs.1 hB).2⟩
    show ls.length-(i+1).toNat<ls.length-i.toNat
    omega
  ·simp only [decide_eq_false_iff_not] at h9003
   exact h1 (AllS_stop (by omega) (by omega))
 ·exact h.elim
theorem c67 (t n:Int) (ls:List V) (ht:∀u∈ls,T28 u):CallP Try.prog 67 [.agg [.int .i64 t,.int .i64 n,.list false ls]] (.bool (dec (AllS (listP ls) ls.length 1 0))):=by
 refine call_loops sp67_ok Try.func67 Try.ntmps67 (by kernel_rfl) (zR ?_) ((n67 t n ls _).mpr ?_)
 ·have e:loopsOf 0 (zC Try.f67)=[zP Try.f67 0]:=by kernel_rfl
  rw [e]
  intro p hp
  simp only [List.mem_cons,List.not_mem_nil,or_false] at hp
  subst hp
  exact zU lp67
 ·intro hl x hx
  subst hx
  exact ⟨rfl,rfl,hl,ht,fun h=>by rw [dec_true h],fun h=>by rw [dec_false h]⟩
theorem sp66_ok:SpOk Try.prog sp66:=zA b68_ok (zD)
theorem lp47i:LsOk Try.prog 77 1006 [1,3,4,5,12,13,14] [1000,1005] ent47i (lin (zP Try.f66 0) 0).2:=by
 intro vs ks K h
 unfold ent47i at h
 split at h
 ·rename_i i k l2 m j t n ls p q lq
  obtain ⟨rfl,hi0,hi1,hll,ht,hpe,hqe,hK1,hK2⟩:=h
  refine zT (hints:=zB) (prs:=zN Try.f66) (Ls:=noLs) sp66_ok ends66_1 (γ:=Int) (fun k=>[.ptr 1000 0 [],.int .i64 i,.ptr 1005 0 [],.int .i64 k,.list false l2,.int .i64 m,.int .i64 j]) (fun _=>[⟨none,false,.agg [.int .i64 t,.int .i64 n,.list false ls]⟩,⟨none,false,.agg [.int .i64 p,.int .i64 q,.list false lq]⟩]) (fun k=>i.toNat-k.toNat)
   (fun k=>0≤k∧(AllS (diffP ls i) i 2 k→K (.exit 3) 1006 [(1,.ptr 1000 0 []),(12,.list false l2),(13,.int .i64 m),(14,.int .i64 j)] [(1000,⟨none,false,.agg [.int .i64 t,.int .i64 n,.list false ls]⟩)])∧(¬AllS (diffP ls i) i 2 k→K .ret 1006 [(2,.gd true (.bool false))] [])) K (zK (by kernel_rfl)) ?_ 0 ⟨by omega,hK1,hK2⟩
  rintro k ⟨h0,h1,h2⟩
  refine (nl66_1 t n ls i k p q lq l2 m j _ _ _).mpr ?_
  intro x hx;subst hx
  refine ⟨fun h9003=>?_,fun h9003=>?_⟩
  ·simp only [decide_eq_true_eq] at h9003
   have hk1:k<ls.length:=by omega
   obtain ⟨t1,n1,l1,e1,_⟩:=ty28 (ht _ (getV_mem h0 hk1))
   have hs:=AllS_step (p:=diffP ls i) (d:=2) h9003
   have hp:diffP ls i k↔¬(t1=p∧n1=q):=by
    unfold diffP;rw [e1,hpe,hqe];exact Iff.rfl
   have hlen:i<4611686018427387904∨True:=.inr trivial
   refine ⟨h0,hk1,t1,n1,l1,e1,fun x hx=>⟨fun h9004=>⟨h0,hk1,t1,n1,l1,e1,fun y hy=>⟨fun h9005=>?_,fun h9005 z hz=>?_⟩⟩,fun h9004 z hz=>?_⟩⟩
   ·exact h2 fun hA=>(hp.1 (hs.1 hA).1) ⟨by rw [hx] at h9004;simpa using h9004,by rw [hy] at h9005;simpa using h9005⟩
   ·have hpi:diffP ls i k:=hp.2 fun h=>by rw [hy,h.2] at h9005;simp at h9005
    have hz':z=k+2:=by rw [hz,IntKind.wrap_i64];omega
    subst hz'
    refine ⟨k+2,rfl,rfl, ?_,by omega,fun hA=>h1 (hs.2 ⟨hpi,hA⟩),fun hA=>h2 fun hB=>hA (hs.1 hB).2⟩
    show i.toNat-(k+2).toNat<i.toNat-k.toNat
    omega
   ·have hpi:diffP ls i k:=hp.2 fun h=>by rw [hx,h.1] at h9004;simp at h9004
    have hz':z=k+2:=by rw [hz,IntKind.wrap_i64];omega
    subst hz'
    refine ⟨k+2,rfl,rfl, ?_,by omega,fun hA=>h1 (hs.2 ⟨hpi,hA⟩),fun hA=>h2 fun hB=>hA (hs.1 hB).2⟩
    show i.toNat-(k+2).toNat<i.toNat-k.toNat
    omega
  ·simp only [decide_eq_false_iff_not] at h9003
   exact h1 (AllS_stop (by omega) (by omega))
 ·exact h.elim
theorem lp66:LsOk Try.prog 77 1001 [1,12,13,14] [1000] ent66 (zP Try.f66 0).2:=by
 intro vs ks K h
 unfold ent66 at h
 split at h
 ·rename_i ls m i t n lsb
  obtain ⟨rfl,rfl,rfl,ht,hl,hK1,hK2⟩:=h
  refine zT (hints:=zB) (prs:=zN Try.f66) (Ls:=ls47i) sp66_ok ends66_0 (γ:=Int) (fun i=>[.ptr 1000 0 [],.list false ls,.int .i64 ls.length,.int .i64 i]) (fun _=>[⟨none,false,.agg [.int .i64 t,.int .i64 n,.list false ls]⟩]) (fun i=>ls.length-i.toNat)
   (fun i=>0≤i∧(AllS (okO ls) ls.length 1 i→K (.exit 0) 1001 [] [])∧(¬AllS (okO ls) ls.length 1 i→K .ret 1001 [(2,.gd true (.bool false))] [])) K (zR ?_) ?_ 0 ⟨by omega,hK1,hK2⟩
  ·have e:loopsOf 0 (zP Try.f66 0).2=[(3,(lin (zP Try.f66 0) 0).2)]:=by kernel_rfl
   show ∀p∈loopsOf 0 (zP Try.f66 0).2,_
   rw [e]
   intro p hp
   simp only [List.mem_cons,List.not_mem_nil,or_false] at hp
   subst hp
   exact zU lp47i
  rintro i ⟨h0,h1,h2⟩
  refine (nl66_0 t n ls _ i _ _ _).mpr ?_
  intro x hx;subst hx
  refine ⟨fun h9003=>?_,fun h9003=>?_⟩
  ·simp only [decide_eq_true_eq] at h9003
   obtain ⟨pt,pn,pl,e,_⟩:=ty28 (ht _ (getV_mem h0 h9003))
   have hs:=AllS_step (p:=okO ls) (d:=1) h9003
   have hp:okO ls i↔plainB pt pn pl=true∧(i.tmod 2=1→pt=5∧pn>0)∧(i.tmod 2≠1→(pt=1∨pt=2)∧AllS (diffP ls i) i 2 0):=by
    unfold okO plainV
    have e1:tagV (getV ls i)=pt:=by rw [e];rfl
    have e2:numV (getV ls i)=pn:=by rw [e];rfl
    have e3:kidsV (getV ls i)=pl:=by rw [e];rfl
    rw [e1,e2,e3]
   have hw:∀z:Int,z=IntKind.i64.wrap (i+1)→z=i+1:=fun z hz=>by rw [hz,IntKind.wrap_i64];omega
   have hm:ls.length-(i+1).toNat<ls.length-i.toNat:=by omega
   refine ⟨h0,h9003,pt,pn,pl,e,fun x hx=>⟨fun h9004=>?_,fun h9004=>?_⟩⟩
   ·exact h2 fun hA=>by have:=(hp.1 (hs.1 hA).1).1;rw [hx,this] at h9004;cases h9004
   have hpl:plainB pt pn pl=true:=by rw [hx] at h9004;simpa using h9004
   refine ⟨⟨rfl,by decide⟩,fun _ y hy zz hzz=>⟨fun h9005 u hu=>⟨fun h8 v hv=>⟨fun h26 z hz=>?_,fun h26=>?_⟩,fun h8=>?_⟩,fun h9005=>?_⟩⟩
   ·have ho:i.tmod 2=1:=by rw [hzz,hy] at h9005;simpa using h9005
    have hpi:okO ls i:=hp.2 ⟨hpl,fun _=>⟨by rw [hu] at h8;simpa using h8,by rw [hv] at h26;simpa using h26⟩,fun h=>absurd ho h⟩
    rw [hw z hz]
    exact ⟨i+1,rfl,rfl,hm,by omega,fun hA=>h1 (hs.2 ⟨hpi,hA⟩),fun hA=>h2 fun hB=>hA (hs.1 hB).2⟩
   ·have hodd:i.tmod 2=1→¬(pt=5∧pn>0):=fun _ h=>by rw [hv] at h26;simp at h26;omega
    refine ⟨⟨rfl,by decide⟩,fun _ a ha b hb=>?_⟩
    subst ha
    refine ⟨fun h44=>?_,fun h44 c hc=>⟨fun h6 d hd=>⟨fun h22=>?_,fun h22=>?_⟩,fun h6=>⟨fun h=>(by cases h),fun _=>?_⟩⟩⟩
    ·exact h2 fun hA=>hodd (by rw [hb] at h44;simpa using h44) ((hp.1 (hs.1 hA).1).2.1 (by rw [hb] at h44;simpa using h44))
    ·have hne:i.tmod 2≠1:=by rw [hb] at h44;simpa using h44
     exact h2 fun hA=>by
      rcases ((hp.1 (hs.1 hA).1).2.2 hne).1 with h|h
      ·rw [hc,h] at h6;simp at h6
      ·rw [hd,h] at h22;simp at h22
    ·have hne:i.tmod 2≠1:=by rw [hb] at h44;simpa using h44
     have ht12:pt=1∨pt=2:=.inr (by rw [hd] at h22;simpa using h22)
     refine ⟨rfl,h0,h9003,hl,ht,by rw [e];rfl,by rw [e];rfl,fun hD z hz=>?_,fun hD=>h2 fun hA=>hD ((hp.1 (hs.1 hA).1).2.2 hne).2⟩
     have hpi:okO ls i:=hp.2 ⟨hpl,fun h=>absurd h hne,fun _=>⟨ht12,hD⟩⟩
     rw [hw z hz]
     exact ⟨i+1,rfl,rfl,hm,by omega,fun hA=>h1 (hs.2 ⟨hpi,hA⟩),fun hA=>h2 fun hB=>hA (hs.1 hB).2⟩
    ·have hne:i.tmod 2≠1:=by rw [hb] at h44;simpa using h44
     have ht12:pt=1∨pt=2:=.inl (by rw [hc] at h6;simpa using h6)
     refine ⟨rfl,h0,h9003,hl,ht,by rw [e];rfl,by rw [e];rfl,fun hD z hz=>?_,fun hD=>h2 fun hA=>hD ((hp.1 (hs.1 hA).1).2.2 hne).2⟩
     have hpi:okO ls i:=hp.2 ⟨hpl,fun h=>absurd h hne,fun _=>⟨ht12,hD⟩⟩
     rw [hw z hz]
     exact ⟨i+1,rfl,rfl,hm,by omega,fun hA=>h1 (hs.2 ⟨hpi,hA⟩),fun hA=>h2 fun hB=>hA (hs.1 hB).2⟩
   ·have hodd:i.tmod 2=1→¬(pt=5∧pn>0):=fun _ h=>by rw [hu,h.1] at h8;simp at h8
    refine ⟨⟨rfl,by decide⟩,fun _ a ha b hb=>?_⟩
    subst ha
    refine ⟨fun h44=>?_,fun h44 c hc=>⟨fun h6 d hd=>⟨fun h22=>?_,fun h22=>?_⟩,fun h6=>⟨fun h=>(by cases h),fun _=>?_⟩⟩⟩
    ·exact h2 fun hA=>hodd (by rw [hb] at h44;simpa using h44) ((hp.1 (hs.1 hA).1).2.1 (by rw [hb] at h44;simpa using h44))
    ·have hne:i.tmod 2≠1:=by rw [hb] at h44;simpa using h44
     exact h2 fun hA=>by
      rcases ((hp.1 (hs.1 hA).1).2.2 hne).1 with h|h
      ·rw [hc,h] at h6;simp at h6
      ·rw [hd,h] at h22;simp at h22
    ·have hne:i.tmod 2≠1:=by rw [hb] at h44;simpa using h44
     have ht12:pt=1∨pt=2:=.inr (by rw [hd] at h22;simpa using h22)
     refine ⟨rfl,h0,h9003,hl,ht,by rw [e];rfl,by rw [e];rfl,fun hD z hz=>?_,fun hD=>h2 fun hA=>hD ((hp.1 (hs.1 hA).1).2.2 hne).2⟩
     have hpi:okO ls i:=hp.2 ⟨hpl,fun h=>absurd h hne,fun _=>⟨ht12,hD⟩⟩
     rw [hw z hz]
     exact ⟨i+1,rfl,rfl,hm,by omega,fun hA=>h1 (hs.2 ⟨hpi,hA⟩),fun hA=>h2 fun hB=>hA (hs.1 hB).2⟩
    ·have hne:i.tmod 2≠1:=by rw [hb] at h44;simpa using h44
     have ht12:pt=1∨pt=2:=.inl (by rw [hc] at h6;simpa using h6)
     refine ⟨rfl,h0,h9003,hl,ht,by rw [e];rfl,by rw [e];rfl,fun hD z hz=>?_,fun hD=>h2 fun hA=>hD ((hp.1 (hs.1 hA).1).2.2 hne).2⟩
     have hpi:okO ls i:=hp.2 ⟨hpl,fun h=>absurd h hne,fun _=>⟨ht12,hD⟩⟩
     rw [hw z hz]
     exact ⟨i+1,rfl,rfl,hm,by omega,fun hA=>h1 (hs.2 ⟨hpi,hA⟩),fun hA=>h2 fun hB=>hA (hs.1 hB).2⟩
   ·have hodd:i.tmod 2=1→¬(pt=5∧pn>0):=fun ho _=>by rw [hzz,hy,ho] at h9005;simp at h9005
    refine ⟨⟨rfl,by decide⟩,fun _ a ha b hb=>?_⟩
    subst ha
    refine ⟨fun h44=>?_,fun h44 c hc=>⟨fun h6 d hd=>⟨fun h22=>?_,fun h22=>?_⟩,fun h6=>⟨fun h=>(by cases h),fun _=>?_⟩⟩⟩
    ·exact h2 fun hA=>hodd (by rw [hb] at h44;simpa using h44) ((hp.1 (hs.1 hA).1).2.1 (by rw [hb] at h44;simpa using h44))
    ·have hne:i.tmod 2≠1:=by rw [hb] at h44;simpa using h44
     exact h2 fun hA=>by
      rcases ((hp.1 (hs.1 hA).1).2.2 hne).1 with h|h
      ·rw [hc,h] at h6;simp at h6
      ·rw [hd,h] at h22;simp at h22
    ·have hne:i.tmod 2≠1:=by rw [hb] at h44;simpa using h44
     have ht12:pt=1∨pt=2:=.inr (by rw [hd] at h22;simpa using h22)
     refine ⟨rfl,h0,h9003,hl,ht,by rw [e];rfl,by rw [e];rfl,fun hD z hz=>?_,fun hD=>h2 fun hA=>hD ((hp.1 (hs.1 hA).1).2.2 hne).2⟩
     have hpi:okO ls i:=hp.2 ⟨hpl,fun h=>absurd h hne,fun _=>⟨ht12,hD⟩⟩
     rw [hw z hz]
     exact ⟨i+1,rfl,rfl,hm,by omega,fun hA=>h1 (hs.2 ⟨hpi,hA⟩),fun hA=>h2 fun hB=>hA (hs.1 hB).2⟩
    ·have hne:i.tmod 2≠1:=by rw [hb] at h44;simpa using h44
     have ht12:pt=1∨pt=2:=.inl (by rw [hc] at h6;simpa using h6)
     refine ⟨rfl,h0,h9003,hl,ht,by rw [e];rfl,by rw [e];rfl,fun hD z hz=>?_,fun hD=>h2 fun hA=>hD ((hp.1 (hs.1 hA).1).2.2 hne).2⟩
     have hpi:okO ls i:=hp.2 ⟨hpl,fun h=>absurd h hne,fun _=>⟨ht12,hD⟩⟩
     rw [hw z hz]
     exact ⟨i+1,rfl,rfl,hm,by omega,fun hA=>h1 (hs.2 ⟨hpi,hA⟩),fun hA=>h2 fun hB=>hA (hs.1 hB).2⟩
  ·simp only [decide_eq_false_iff_not] at h9003
   exact h1 (AllS_stop (by omega) (by omega))
 ·exact h.elim
theorem c66 (t n:Int) (ls:List V) (ht:∀u∈ls,T28 u):CallP Try.prog 66 [.agg [.int .i64 t,.int .i64 n,.list false ls]] (.bool (dec (inO ls))):=by
 refine call_loops sp66_ok Try.func66 Try.ntmps66 (by kernel_rfl) (zR ?_) ((n66 t n ls _).mpr ?_)
 ·have e:loopsOf 0 (zC Try.f66)=[zP Try.f66 0]:=by kernel_rfl
  rw [e]
  intro p hp
  simp only [List.mem_cons,List.not_mem_nil,or_false] at hp
  subst hp
  exact zU lp66
 ·intro hl x hx
  subst hx
  refine ⟨⟨rfl,by decide⟩,fun _ y hy z hz=>?_⟩
  subst hy hz
  refine ⟨fun h=>?_,fun h hl2 y hy=>?_⟩
  ·rw [dec_false]
   intro hK
   rw [hK.1] at h
   cases h
  ·have he:(ls.length:Int).tmod 2=0:=by simpa using h
   refine ⟨rfl,hy,rfl,ht,hl,fun hA=>?_,fun hA=>?_⟩
   ·rw [dec_true ⟨he,hA⟩]
   ·rw [dec_false fun hK=>hA hK.2]
theorem b66_ok (args:List V) (k:V→Prop) (h:b66 args k):∃r,CallP Try.prog 66 args r∧k r:=by
 unfold b66 at h
 split at h
 ·exact ⟨_,c66 _ _ _ h.1,h.2⟩
 ·exact h.elim
theorem b67_ok (args:List V) (k:V→Prop) (h:b67 args k):∃r,CallP Try.prog 67 args r∧k r:=by
 unfold b67 at h
 split at h
 ·exact ⟨_,c67 _ _ _ h.1,h.2⟩
 ·exact h.elim
theorem sp43g_ok:SpOk Try.prog sp43g:=zA b66_ok (zA b67_ok (zA b68_ok (zA b69_ok (zA b70_ok zD))))
theorem c43g (c t n:Int) (ls:List V) (ht:∀u∈ls,T28 u):CallP Try.prog 45 [.int .u8 c,.agg [.int .i64 t,.int .i64 n,.list false ls]] (.bool (letO c t n ls)):=by
 refine zJ sp43g_ok Try.func45 Try.ntmps45 (by kernel_rfl) ((n43g c t n ls _).mpr ?_)
 (repeat' (first|exact ht|(refine And.intro ?_ ?_)|(intro x hx;subst hx)|(intro _)))<;>(first|rfl|(simp only [letO,bigO,fit1,dec_T,dec_F, *,if_true,if_false,Bool.false_eq_true,↓reduceIte];done)|(simp only [letO,bigO,fit1,dec_T,dec_F, *,if_true,if_false,Bool.false_eq_true,↓reduceIte];first|rfl|(simp;done))|(exfalso;simp_all;done)|skip)
theorem b43g_ok (args:List V) (k:V→Prop) (h:b43g args k):∃r,CallP Try.prog 45 args r∧k r:=by
 unfold b43g at h
 split at h
 ·exact ⟨_,c43g _ _ _ _ h.1,h.2⟩
 ·exact h.elim
theorem sp33g_ok:SpOk Try.prog sp33g:=zA b44_ok (zA b43g_ok zD)
theorem lp33g:LsOk Try.prog 40 1000 [3,26,27,28] [] ent33g (zP Try.f33 0).2:=by
 intro vs ks K h
 unfold ent33g at h
 split at h
 ·rename_i sg xs n i
  obtain ⟨rfl,hb,hl,ht,rfl,hK1,hK2⟩:=h
  refine zT (hints:=zB) (prs:=zN Try.f33) (Ls:=noLs) sp33g_ok ends33g (γ:=Int) (fun i=>[.str sg,.list false xs,.int .i64 xs.length,.int .i64 i]) (fun _=>[]) (fun i=>xs.length-i.toNat)
   (fun i=>0≤i∧(AllS (okG sg xs) xs.length 1 i→K (.exit 0) 1000 [] [])∧(¬AllS (okG sg xs) xs.length 1 i→K .ret 1000 [(2,.gd true (.bool false))] [])) K (zK (by kernel_rfl)) ?_ 0 ⟨by omega,hK1,hK2⟩
  rintro i ⟨h0,h1,h2⟩
  refine (nl33g sg xs _ i _ _ _).mpr ?_
  intro x hx;subst hx
  refine ⟨fun h9003=>?_,fun h9003=>?_⟩
  ·simp only [decide_eq_true_eq] at h9003
   obtain ⟨t,n,l,e,htl⟩:=ty28 (ht _ (getV_mem h0 h9003))
   have hs:=AllS_step (p:=okG sg xs) (d:=1) h9003
   have hp:okG sg xs i↔letO ((sg.getD i.toNat 0).toNat:Int) t n l=true:=by
    unfold okG;rw [e];exact Iff.rfl
   refine ⟨h0,h9003,t,n,l,e,h0,by omega,fun x hx=>?_⟩
   subst hx
   refine ⟨htl,fun x hx=>⟨fun h9004=>?_,fun h9004 z hz=>?_⟩⟩
   ·exact h2 fun hA=>by have:=hp.1 (hs.1 hA).1;rw [hx,this] at h9004;cases h9004
   ·have hz':z=i+1:=by rw [hz,IntKind.wrap_i64];omega
    subst hz'
    have hpi:okG sg xs i:=hp.2 (by rw [hx] at h9004;simpa using h9004)
    refine ⟨i+1,rfl,rfl, ?_,by omega,fun hA=>h1 (hs.2 ⟨hpi,hA⟩),fun hA=>h2 fun hB=>hA (hs.1 hB).2⟩
    show xs.length-(i+1).toNat<xs.length-i.toNat
    omega
  ·simp only [decide_eq_false_iff_not] at h9003
   exact h1 (AllS_stop (by omega) (by omega))
 ·exact h.elim
theorem c33g (op:Int) (xs:List V) (ht:∀u∈xs,T28 u):CallP Try.prog 33 [.agg [.int .i64 op,.list false xs]] (.bool (fitsG op xs)):=by
 refine call_loops sp33g_ok Try.func33 Try.ntmps33 (by kernel_rfl) (zR ?_) ((n33g op xs _).mpr ?_)
 ·have e:loopsOf 0 (zC Try.f33)=[zP Try.f33 0]:=by kernel_rfl
  rw [e]
  intro p hp
  simp only [List.mem_cons,List.not_mem_nil,or_false] at hp
  subst hp
  exact zU lp33g
 ·intro x h1;subst h1
  refine ⟨fun h1=>by simp only [fitsG,h1,if_true],fun h1 x h2=>?_⟩
  subst h2
  refine ⟨fun h2=>by simp only [fitsG,h1,h2,if_true,if_false,Bool.false_eq_true],fun h2 hl x h9003 hl2 y h9004 z h9005=>?_⟩
  subst h9003 h9004 h9005
  refine ⟨fun h9003=>by simp only [fitsG,h1,h2,h9003,if_true,if_false,Bool.false_eq_true],fun h9003 hl x h9004=>?_⟩
  have h8:xs.length=(sigS op).length:=by
   have h26:(xs.length:Int)=((sigS op).length:Int):=by simpa using h9003
   omega
  refine ⟨h9004,hl,h8,ht,rfl,fun h=>?_,fun h=>?_⟩
  ·simp only [fitsG,h1,h2,h9003,dec_true h,if_true,if_false,Bool.false_eq_true]
  ·simp only [fitsG,h1,h2,h9003,dec_false h,if_true,if_false,Bool.false_eq_true]
theorem b33g_ok (args:List V) (k:V→Prop) (h:b33g args k):∃r,CallP Try.prog 33 args r∧k r:=by
 unfold b33g at h
 split at h
 ·exact ⟨_,c33g _ _ h.1,h.2⟩
 ·exact h.elim
theorem sp56g_ok:SpOk Try.prog sp56g:=zA b33g_ok zD
theorem fitsG_len {op:Int} {xs:List V} (h:fitsG op xs=true):xs.length=(sigS op).length:=by
 unfold fitsG at h
 split at h
 ·cases h
 ·split at h
  ·cases h
  ·split at h
   ·cases h
   ·rename_i h9003
    have h9004:(xs.length:Int)=((sigS op).length:Int):=by simpa using h9003
    omega
theorem hdG {op:Int} {xs:List V} {c:UInt8} {r:List UInt8} (hs:sigS op=c::r) (ht:∀u∈xs,T28 u) (h:fitsG op xs=true):0<(xs.length:Int)∧∃(t n:Int) (l:List V),getV xs 0=V.agg [V.int IntKind.i64 t,V.int IntKind.i64 n,V.list false l]:=by
 have hl:=fitsG_len h
 rw [hs] at hl
 have h0:(0:Int)<(xs.length:Int):=by rw [hl];simp only [List.length_cons];omega
 obtain ⟨t,n,l,e,_⟩:=ty28 (ht _ (getV_mem (Int.le_refl 0) h0))
 exact ⟨h0,t,n,l,e⟩
theorem c56g (op:Int) (xs:List V) (ht:∀u∈xs,T28 u):CallP Try.prog 56 [.agg [.int .i64 op,.list false xs]] (.bool (thr (fitsG op xs) op xs)):=by
 refine zJ sp56g_ok Try.func56 Try.ntmps56 (by kernel_rfl) ((n56g op xs _).mpr ⟨ht, ?_⟩)
 intro x hx
 subst hx
 refine ⟨fun h=>by simp only [thr,h,if_true],fun h0=>?_⟩
 have hft:fitsG op xs=true:=by simpa using h0
 have key:∀(c:UInt8) (r:List UInt8),sigS op=c::r→0<(xs.length:Int)∧∃(t n:Int) (l:List V),getV xs 0=V.agg [V.int IntKind.i64 t,V.int IntKind.i64 n,V.list false l]:=fun c r hs=>hdG hs ht hft
 clear hft
 (repeat' (first|(refine And.intro ?_ ?_)|(intro x hx;subst hx)|(intro _)))
 all_goals first
  |decide
  |(simp only [thr, *,Bool.not_true,Bool.not_false,if_true,if_false,Bool.false_eq_true,↓reduceIte];done)
  |(rename_i ho;exact (key 102 _ (by rw [eq_of_beq ho];rfl)).1)
  |(rename_i ho;obtain ⟨_,t,n,l,e⟩:=key 102 _ (by rw [eq_of_beq ho];rfl);exact ⟨t,n,l,e,fun x hx=>by subst hx;simp only [thr,N0,e, *,Bool.not_true,Bool.not_false,if_true,if_false,Bool.false_eq_true,↓reduceIte]⟩)
  |skip
theorem b56g_ok (args:List V) (k:V→Prop) (h:b56g args k):∃r,CallP Try.prog 56 args r∧k r:=by
 unfold b56g at h
 split at h
 ·exact ⟨_,c56g _ _ h.1,h.2⟩
 ·exact h.elim
end GoL
