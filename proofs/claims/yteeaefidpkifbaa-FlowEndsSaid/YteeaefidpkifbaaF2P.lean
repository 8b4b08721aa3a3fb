/- A part of the proof: a logic proved sound over the model; contracts; plain laws. -/
import Derived.Test.YteeaefidpkifbaaF2N
set_option linter.all false
open Go Go.Proofs
namespace GoL
set_option maxRecDepth 8000
attribute [local irreducible] wC
theorem body_rng {l:List V}:∀(k:Nat) {i:Int},k=l.length-i.toNat+1→0≤i→(bodyF l i).2=true→i≤(bodyF l i).1∧(bodyF l i).1<l.length:=by
 intro k
 induction k with
 |zero=>intro i hk;omega
 |succ k ih=>
  intro i hk h0 h
  by_cases hlt:i<l.length
  ·have hs:=sF h0 hlt
   rw [hs] at h ⊢
   by_cases c1:beginsB l i=true
   ·rw [if_pos c1];exact ⟨Int.le_refl _,hlt⟩
   ·rw [if_neg c1] at h ⊢
    by_cases c2:(insO (getV l i)==3)=true
    ·rw [if_pos c2];exact ⟨Int.le_refl _,hlt⟩
    ·rw [if_neg c2] at h ⊢
     by_cases c3:(insO (getV l i)==2)=true
     ·rw [if_pos c3] at h;cases h
     ·rw [if_neg c3] at h ⊢
      have:=ih (i:=i+1) (by omega) (by omega) h
      exact ⟨by omega,this.2⟩
  ·rw [body_end hlt] at h;cases h
theorem opA_lt {l:List V} {i:Int} {k:Int} (hk:k≠0) (h:opA l i=k):i<l.length:=by
 unfold opA at h
 split at h
 ·rename_i h1;exact of_decide_eq_true h1
 ·exact absurd h.symm hk
theorem begins_lt {l:List V} {i:Int} (h:beginsB l i=true):i+1<l.length:=by
 unfold beginsB at h
 split at h
 ·exact opA_lt (k:=2) (by decide) (by simpa using h)
 ·cases h
theorem sp9_ok:SpOk Try.prog sp9:=zA b17_ok (zA b18_ok (zA b19_ok (zA b20_ok zD)))
theorem tE {out:List V} (h:tZ out):∀v,List.Mem v out→V.ids v=[]:=fun v hv=>by obtain ⟨a,b,c,d,rfl⟩:=h v hv;rfl
theorem partL_app {out:List V} (h:tZ out) (a b c d:Int):tZ (out++[.agg [.int .i64 a,.int .i64 b,.int .i64 c,.int .i64 d]]):=fun v hv=>by
 rcases List.mem_append.1 hv with hv|hv
 ·exact h v hv
 ·exact ⟨a,b,c,d,by simpa using hv⟩
theorem lp9:LsOk Try.prog 76 1005 [0,5,6] [] ent9 (zP Try.f9 0).2:=by
 intro vs ks K h
 unfold ent9 at h
 split at h
 ·rename_i l i
  obtain ⟨hl,rfl,hF,hT⟩:=h
  refine TL_own (t:=5) (E:=37) rfl ?_
  have hc:cutK 1006 [0,5,6] [1005] (fun vs ks=>vs=[.list false l,.sl 1005 0,.int .i64 0]∧ks=[⟨some 37,false,.agg []⟩]) 1006 ((5,.sl 1005 0)::List.zip [0,5,6] [.list false l,.nils,.int .i64 0]) ((1005,⟨some 37,false,.agg []⟩)::List.zip [] []):=⟨fun v hv=>(by cases hv),rfl,rfl⟩
  obtain ⟨vs,ks,⟨rfl,rfl⟩,hw⟩:=cutK_go hc
  have hlen:=hl.2
  have hL:=zT (N:=76) (c:=(zP Try.f9 0).2) (hints:=zB) (prs:=zN Try.f9) (Ls:=noLs) sp9_ok ends9_0 (γ:=Nat×List V×Int) (fun g=>[.list false l,.sl 1005 g.2.1.length,.int .i64 g.2.2]) (fun g=>[⟨some 37,false,.agg g.2.1⟩]) (fun g=>l.length+1-g.2.2.toNat)
   (fun g=>0≤g.2.2∧g.2.2≤l.length∧l.length+1≤g.1+g.2.2.toNat∧g.2.1.length≤g.2.2.toNat∧tZ g.2.1∧partsN l g.1 g.2.1 g.2.2=uK l) K (zK (by kernel_rfl)) (fun g hg=>by
    obtain ⟨k,out,i⟩:=g
    obtain ⟨i0,i1,hk,ho,hP,hg⟩:=hg
    simp only at i0 i1 hk ho hP hg
    obtain ⟨k,rfl⟩:∃m,k=m+1:=⟨k-1,by omega⟩
    have hids:=tE hP
    refine (nl9_0 l out _ i _ _ _).mpr ?_
    unfold partsN at hg
    refine ⟨⟨hl,i0,by omega⟩,fun x e=>⟨fun h=>?_,fun h=>?_⟩⟩
    ·have hb:beginsB l i=false:=by rw [h] at e;simpa using e.symm
     rw [if_pos hb] at hg
     exact ⟨hids,hF _ _ hg.symm⟩
    have hb:beginsB l i=true:=by rw [h] at e;simpa using e.symm
    have hbl:=begins_lt hb
    rw [if_neg (by rw [hb];decide)] at hg
    have w2:IntKind.wrap IntKind.i64 (i+2)=i+2:=by rw [IntKind.wrap_i64];omega
    have w1:IntKind.wrap IntKind.i64 (i+1)=i+1:=by rw [IntKind.wrap_i64];omega
    have w3:IntKind.wrap IntKind.i64 (i+3)=i+3:=by rw [IntKind.wrap_i64];omega
    intro x6 e6
    rw [w2] at e6
    subst e6
    refine ⟨⟨hl,by omega⟩,fun x8 e8=>⟨fun h8=>?_,fun h8=>?_⟩⟩
    ·rw [←e8,h8,if_pos rfl] at hg
     intro x11 e11
     rw [w2] at e11
     subst e11
     exact ⟨hids,hF _ _ hg.symm⟩
    rw [←e8,h8,if_neg (by decide)] at hg
    have h2l:i+2<l.length:=opA_lt (k:=1) (by decide) (by rw [h8] at e8;simpa using e8.symm)
    intro x16 e16
    rw [w2] at e16
    subst e16
    obtain ⟨op2,ag2,g2,t2⟩:=uR hl (i:=i+2) (by omega) h2l
    refine ⟨by omega,h2l,op2,ag2,g2,⟨t2,Int.le_refl _⟩,fun x22 e22=>?_⟩
    rw [w1] at e22
    subst e22
    obtain ⟨op1,ag1,g1,t1⟩:=uR hl (i:=i+1) (by omega) hbl
    have en2:numA (insA (getV l (i+2))) 0=numA ag2 0:=by rw [g2];rfl
    have en1:numA (insA (getV l (i+1))) 2=numA ag1 2:=by rw [g1];rfl
    rw [en2,en1] at hg
    refine ⟨by omega,hbl,op1,ag1,g1,⟨t1,by decide⟩,fun x28 e28=>⟨fun h28=>?_,fun h28=>?_⟩⟩
    ·rw [←e28,h28] at hg
     rw [if_pos (by rfl)] at hg
     intro x31 e31
     rw [w1] at e31
     subst e31
     exact ⟨hids,hF _ _ hg.symm⟩
    rw [←e28,h28] at hg
    intro x36 e36
    refine ⟨fun h36=>?_,fun h36=>?_⟩
    ·rw [←e36,h36] at hg
     rw [if_pos (by rfl)] at hg
     intro x39 e39
     rw [w1] at e39
     subst e39
     exact ⟨hids,hF _ _ hg.symm⟩
    rw [←e36,h36] at hg
    rw [if_neg (by decide)] at hg
    intro x44 e44
    rw [w3] at e44
    subst e44
    refine ⟨⟨hl,by omega,by omega⟩,fun x46 e46=>⟨fun h46=>?_,fun h46=>?_⟩⟩
    ·have hbo:(bodyF l (i+3)).2=false:=by rw [h46] at e46;simpa using e46.symm
     rw [if_pos hbo] at hg
     exact ⟨hids,hF _ _ hg.symm⟩
    have hbo:(bodyF l (i+3)).2=true:=by rw [h46] at e46;simpa using e46.symm
    rw [if_neg (by rw [hbo];decide)] at hg
    obtain ⟨r1,r2⟩:=body_rng _ rfl (by omega) hbo
    have hP2:=partL_app hP i (bodyF l (i+3)).1 (numA ag2 0) (numA ag1 2)
    refine ⟨⟨rfl,rfl,⟨rfl,trivial⟩,fun v hv=>(by cases hv with|head=>rfl|tail _ h=>cases h),rfl,rfl,32,rfl,by show (out.length+1)*32≤_;omega,by show out.length+1≤_;omega⟩,fun _=>?_⟩
    generalize (bodyF l (i+3)).1=b at hg r1 r2 hP2 ⊢
    obtain ⟨op3,ag3,g3,t3⟩:=uR hl (i:=b) (by omega) r2
    refine ⟨by omega,r2,op3,ag3,g3,fun x58 e58=>⟨fun h58=>?_,fun h58=>?_⟩⟩
    ·rw [g3] at hg
     rw [if_pos (by show (op3 != 3)=true;rw [←e58,h58])] at hg
     refine ⟨tE hP2,(k,out++[.agg [.int .i64 i,.int .i64 b,.int .i64 (numA ag2 0),.int .i64 (numA ag1 2)]],b), ?_,rfl, ?_,by show 0≤b;omega,by show b≤l.length;omega,by show l.length+1≤k+b.toNat;omega,by show (out++[_]).length≤b.toNat;simp;omega,hP2,hg⟩
     ·simp
     ·show l.length+1-b.toNat<l.length+1-i.toNat;omega
    rw [g3] at hg
    rw [if_neg (by show ¬(op3 != 3)=true;rw [←e58,h58];decide)] at hg
    intro _ x65 e65 x67 e67
    subst e65
    have w4:IntKind.wrap IntKind.i64 ((l.length:Int)-1)=l.length-1:=by rw [IntKind.wrap_i64];omega
    rw [w4] at e67
    subst e67
    intro x69 e69
    refine ⟨fun h69=>?_,fun h69=>?_⟩
    ·rw [←e69,h69,if_pos rfl] at hg
     exact ⟨tE hP2,hF _ _ hg.symm⟩
    ·rw [←e69,h69,if_neg (by decide)] at hg
     refine ⟨tE hP2, ?_⟩
     have:=hT _ 0 hP2 hg.symm
     rw [List.length_append] at this
     exact this) (l.length+1,[],0) ⟨Int.le_refl _,by show (0:Int)≤(l.length:Int);omega,by show l.length+1≤l.length+1+(0:Int).toNat;simp,by show (0:Nat)≤_;exact Nat.zero_le _,(fun v hv=>by cases hv),rfl⟩
  exact hL.weak hw
 ·exact h.elim
theorem c9 (l:List V) (hl:uB l):CallP Try.prog 9 [.list false l] (.tup [.list false (uK l).1,.int .i64 (uK l).2.1,.bool (uK l).2.2]):=by
 refine call_loops sp9_ok Try.func9 Try.ntmps9 (by kernel_rfl) (zR ?_) ((n9 l _).mpr ?_)
 ·intro p hp
  have e:loopsOf 0 (zC Try.f9)=[zP Try.f9 0]:=by kernel_rfl
  rw [e] at hp
  simp only [List.mem_singleton] at hp
  subst hp
  exact zU lp9
 ·exact ⟨hl,rfl,fun j _ h=>by rw [h],fun out j _ h=>⟨rfl,by rw [h]⟩⟩
theorem b9_ok (args:List V) (k:V→Prop) (h:b9 args k):∃r,CallP Try.prog 9 args r∧k r:=by
 unfold b9 at h
 split at h
 ·exact ⟨_,c9 _ h.1,h.2 _ rfl⟩
 ·exact h.elim
end GoL
