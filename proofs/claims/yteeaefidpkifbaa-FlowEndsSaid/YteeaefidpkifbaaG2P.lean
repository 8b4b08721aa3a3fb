/- A part of the proof: a logic proved sound over the model; contracts; plain laws. -/
import Derived.Test.YteeaefidpkifbaaG2N
import Derived.Test.YteeaefidpkifbaaR6P
set_option linter.all false
open Go Go.Proofs
namespace GoL
set_option maxRecDepth 8000
attribute [local irreducible] wC
theorem lkV_ren (l:LK) (c e:Nat):(lkV l 1).ren (ro2 c e)=lkV l e:=rfl
theorem lkV_ids (l:LK) (e:Nat):(lkV l e).idsB=[e]:=rfl
theorem hbL_ok {f:Nat} {spec:List V→LK→(V→LK→Prop)→Prop} (h:∀rest l k,spec rest l k→∃r l',LC f rest l r l'∧r.idsB=[]∧k r l'):HOk Try.prog f (hbL spec):=by
 intro hvc rest H1 id k hk
 unfold hbL at hk
 split at hk
 ·rename_i c
  split at hk
  ·rename_i t hc
   split at hk
   ·rename_i a1 a2 a3 a4 e n a6 a7
    split at hk
    ·rename_i E rows he
     rw [zE] at hk
     obtain ⟨hE,l,ht,hr,hs⟩:=hk
     have hE:=Nat.eq_of_beq_eq_true hE
     subst hE hr
     obtain ⟨r,l',h1,h2,h9003⟩:=h _ _ _ hs
     exact ⟨_,_,hsem_pe hc he (by rw [lkV_ren];exact ht.symm) (lkV_ren l' c e) (lkV_ids l 1) (lkV_ids l' 1) h2 h1,h9003⟩
    ·exact hk.elim
   ·exact hk.elim
  ·exact hk.elim
 ·exact hk.elim
def LR (f:Nat) (rest:List V) (l:LK) (r:V):Prop:=∀z z':Bool,CallH Try.prog f (.ptr 0 0 []::rest) (lkB [(0,⟨none,z,lkV l 1⟩),(1,⟨some 79,z',.agg l.es⟩)]) r (lkB [(0,⟨none,z,lkV l 1⟩),(1,⟨some 79,z',.agg l.es⟩)])
theorem hbR_ok {f:Nat} {spec:List V→LK→(V→Prop)→Prop} (h:∀rest l k,spec rest l k→∃r,LR f rest l r∧r.idsB=[]∧k r):HOk Try.prog f (hbR spec):=by
 intro hvc rest H1 id k hk
 unfold hbR at hk
 split at hk
 ·rename_i c
  split at hk
  ·rename_i z t hc
   split at hk
   ·rename_i a1 a2 a3 a4 e n a6 a7
    split at hk
    ·rename_i E z' rows he
     rw [zE] at hk
     obtain ⟨hE,l,ht,hr,hs⟩:=hk
     have hE:=Nat.eq_of_beq_eq_true hE
     subst hE hr
     obtain ⟨r,h1,h2,h9003⟩:=h _ _ _ hs
     exact ⟨_,_,hsem_pe_ro hc he (by rw [lkV_ren];exact ht.symm) (lkV_ids l 1) h2 (h1 z z'),h9003⟩
    ·exact hk.elim
   ·exact hk.elim
  ·exact hk.elim
 ·exact hk.elim
theorem sp57_ok:SpOk Try.prog sp57:=zD
theorem c57 (ok:Bool) (l:LK):LC 57 [.bool ok] l (.bool (zW l ok).rt) (zW l ok):=by
 refine callQ_go (own:=none) (pur:=[]) (n1:=1000) (η:=[(0,⟨none,false,lkV l 1⟩),(1,⟨some 79,false,.agg l.es⟩)]) (η1:=[(0,⟨none,false,lkV l 1⟩),(1,⟨some 79,false,.agg l.es⟩)]) (ids:=[0,1]) (ks:=[⟨none,false,lkV (zW l ok) 1⟩,⟨some 79,false,.agg (zW l ok).es⟩]) (hint:=none) (Ls:=noLs) (hints:=zB) (prs:=zO []) (N:=19) sp57_ok Try.func57 Try.ntmps57 (by kernel_rfl) (zK (by kernel_rfl)) rfl ((n57 ok l _ _).mpr ?_)
 refine ⟨fun h=>?_,fun h=>?_⟩
 ·have e:zW l ok={ l with rt:=ok }:=by unfold zW;rw [if_pos h]
  rw [e];exact ⟨rfl,rfl⟩
 ·have e:zW l ok={ l with rt:=false }:=by unfold zW;rw [if_neg (by rw [h];decide)]
  rw [e];exact ⟨rfl,rfl⟩
theorem h57_ok:HOk Try.prog 57 (hbL s57):=hbL_ok fun rest l k h=>by
 unfold s57 at h
 split at h
 ·exact ⟨_,_,c57 _ _,rfl,h _ rfl⟩
 ·exact h.elim
theorem c57y (ok:Bool) (l:LK):CallH Try.prog 57 [.ptr 0 0 [],.bool ok] (lkB [(0,⟨none,false,lkY l 1 2⟩),(1,⟨some 79,false,.agg l.es⟩),(2,⟨some 52,false,.agg l.o.ys⟩)]) (.bool (zW l ok).rt) (lkB [(0,⟨none,false,lkY (zW l ok) 1 2⟩),(1,⟨some 79,false,.agg (zW l ok).es⟩),(2,⟨some 52,false,.agg (zW l ok).o.ys⟩)]):=by
 refine callQ_go (own:=none) (pur:=[]) (n1:=1000) (η:=[(0,⟨none,false,lkY l 1 2⟩),(1,⟨some 79,false,.agg l.es⟩),(2,⟨some 52,false,.agg l.o.ys⟩)]) (η1:=[(0,⟨none,false,lkY l 1 2⟩),(1,⟨some 79,false,.agg l.es⟩),(2,⟨some 52,false,.agg l.o.ys⟩)]) (ids:=[0,1,2]) (ks:=[⟨none,false,lkY (zW l ok) 1 2⟩,⟨some 79,false,.agg (zW l ok).es⟩,⟨some 52,false,.agg (zW l ok).o.ys⟩]) (hint:=none) (Ls:=noLs) (hints:=zB) (prs:=zO []) (N:=19) sp57_ok Try.func57 Try.ntmps57 (by kernel_rfl) (zK (by kernel_rfl)) rfl ((n57y ok l _ _).mpr ?_)
 refine ⟨fun h=>?_,fun h=>?_⟩
 ·have e:zW l ok={ l with rt:=ok }:=by unfold zW;rw [if_pos h]
  rw [e];exact ⟨rfl,rfl⟩
 ·have e:zW l ok={ l with rt:=false }:=by unfold zW;rw [if_neg (by rw [h];decide)]
  rw [e];exact ⟨rfl,rfl⟩
theorem lkY_ren (l:LK) (c e y:Nat):(lkY l 1 2).ren (ro3 c e y)=lkY l e y:=rfl
theorem lkY_ids (l:LK) (e y:Nat):(lkY l e y).idsB=[y,e]:=rfl
theorem h57L_ok:HOk Try.prog 57 (hbL s57):=h57_ok
theorem s57_inv {rest:List V} {l:LK} {k:V→LK→Prop} (h:s57 rest l k):∃ok,rest=[.bool ok]∧∀l',l'=zW l ok→k (.bool l'.rt) l':=by
 unfold s57 at h
 split at h
 ·exact ⟨_,rfl,h⟩
 ·exact h.elim
theorem h57M_ok:HOk Try.prog 57 hbM:=by
 intro hvc rest H1 id k hk
 unfold hbM at hk
 split at hk
 ·rename_i c
  split at hk
  ·rename_i t hc
   split at hk
   ·rename_i a1 a2 a3 x0 x1 ys x3 x4 e n a6 a7
    split at hk
    ·rename_i y m
     split at hk
     ·rename_i E rows he
      split at hk
      ·rename_i F yr hy
       rw [zE,zE] at hk
       obtain ⟨hE,hF,hk⟩:=hk
       have hE:=Nat.eq_of_beq_eq_true hE
       have hF:=Nat.eq_of_beq_eq_true hF
       subst hE hF
       split at hk
       ·rename_i hey
        have hey:e≠y:=fun h=>by rw [h,Nat.beq_refl] at hey;cases hey
        obtain ⟨l,ht,hr,hyr,hs⟩:=hk
        subst hr hyr
        obtain ⟨ok,rfl,hs⟩:=s57_inv hs
        ·refine ⟨_,_,hsem_pey (t:=lkY l 1 2) (t':=lkY (zW l ok) 1 2) hey hc he hy (by rw [lkY_ren];exact ht.symm) (lkY_ren _ c e y) ?_ ?_ (fun j hj=>?_) (fun j hj=>?_) rfl (c57y ok l),hs _ rfl⟩
         ·rw [ht,lkY_ids];simp
         ·rw [ht,lkY_ids];simp
         ·rw [lkY_ids] at hj;simp at hj;omega
         ·rw [lkY_ids] at hj;simp at hj;omega
       ·exact hk.elim
      ·exact hk.elim
     ·exact hk.elim
    ·exact h57L_ok _ _ _ _ _ hk
   ·exact hk.elim
  ·exact hk.elim
 ·exact hk.elim
theorem sp79_ok:SpOk Try.prog sp79:=zD
theorem c79 (i:Int) (l:LK) (hp:0≤i∧i<l.ag.length∧∃(t n:Int) (ls:List V),getV l.ag i=.agg [.int .i64 t,.int .i64 n,.list false ls]):LR 79 [.int .i64 i] l (getV l.ag i):=by
 intro z z1
 refine callQ_go (own:=none) (pur:=[]) (n1:=1000) (η:=[(0,⟨none,z,lkV l 1⟩),(1,⟨some 79,z1,.agg l.es⟩)]) (η1:=[(0,⟨none,z,lkV l 1⟩),(1,⟨some 79,z1,.agg l.es⟩)]) (ids:=[0,1]) (ks:=[⟨none,z,lkV l 1⟩,⟨some 79,z1,.agg l.es⟩]) (hint:=none) (Ls:=noLs) (hints:=zB) (prs:=zO []) (N:=13) sp79_ok Try.func79 Try.ntmps79 (by kernel_rfl) (zK (by kernel_rfl)) rfl ((n79 i l z z1 _ _).mpr ?_)
 obtain ⟨h0,h1,t,n,ls,e⟩:=hp
 exact ⟨h0,h1,t,n,ls,e,e,rfl⟩
theorem h79_ok:HOk Try.prog 79 (hbR s79):=hbR_ok fun rest l k h=>by
 unfold s79 at h
 split at h
 ·obtain ⟨h0,h1,t,n,ls,e,h2⟩:=h
  exact ⟨_,c79 _ _ ⟨h0,h1,t,n,ls,e⟩,by rw [e];rfl,by rw [e];exact h2⟩
 ·exact h.elim
theorem sp47_ok:SpOk Try.prog sp47:=zD
theorem c47 (i:Int) (l:LK) (hp:0≤i∧i<l.ag.length∧∃(t n:Int) (ls:List V),getV l.ag i=.agg [.int .i64 t,.int .i64 n,.list false ls]):LR 47 [.int .i64 i] l (.int .i64 (nV (getV l.ag i))):=by
 intro z z1
 refine callQ_go (own:=none) (pur:=[]) (n1:=1000) (η:=[(0,⟨none,z,lkV l 1⟩),(1,⟨some 79,z1,.agg l.es⟩)]) (η1:=[(0,⟨none,z,lkV l 1⟩),(1,⟨some 79,z1,.agg l.es⟩)]) (ids:=[0,1]) (ks:=[⟨none,z,lkV l 1⟩,⟨some 79,z1,.agg l.es⟩]) (hint:=none) (Ls:=noLs) (hints:=zB) (prs:=zO []) (N:=14) sp47_ok Try.func47 Try.ntmps47 (by kernel_rfl) (zK (by kernel_rfl)) rfl ((n47 i l z z1 _ _).mpr ?_)
 obtain ⟨h0,h1,t,n,ls,e⟩:=hp
 exact ⟨h0,h1,t,n,ls,e,by rw [e];rfl,rfl⟩
theorem h47_ok:HOk Try.prog 47 (hbR s47):=hbR_ok fun rest l k h=>by
 unfold s47 at h
 split at h
 ·obtain ⟨h0,h1,t,n,ls,e,h2⟩:=h
  exact ⟨_,c47 _ _ ⟨h0,h1,t,n,ls,e⟩,rfl,by rw [e];exact h2⟩
 ·exact h.elim
theorem c47y (i:Int) (l:LK) (hp:0≤i∧i<l.ag.length∧∃(t n:Int) (ls:List V),getV l.ag i=.agg [.int .i64 t,.int .i64 n,.list false ls]) (z z1 z2:Bool):CallH Try.prog 47 [.ptr 0 0 [],.int .i64 i] (lkB [(0,⟨none,z,lkY l 1 2⟩),(1,⟨some 79,z1,.agg l.es⟩),(2,⟨some 52,z2,.agg l.o.ys⟩)]) (.int .i64 (nV (getV l.ag i))) (lkB [(0,⟨none,z,lkY l 1 2⟩),(1,⟨some 79,z1,.agg l.es⟩),(2,⟨some 52,z2,.agg l.o.ys⟩)]):=by
 refine callQ_go (own:=none) (pur:=[]) (n1:=1000) (η:=[(0,⟨none,z,lkY l 1 2⟩),(1,⟨some 79,z1,.agg l.es⟩),(2,⟨some 52,z2,.agg l.o.ys⟩)]) (η1:=[(0,⟨none,z,lkY l 1 2⟩),(1,⟨some 79,z1,.agg l.es⟩),(2,⟨some 52,z2,.agg l.o.ys⟩)]) (ids:=[0,1,2]) (ks:=[⟨none,z,lkY l 1 2⟩,⟨some 79,z1,.agg l.es⟩,⟨some 52,z2,.agg l.o.ys⟩]) (hint:=none) (Ls:=noLs) (hints:=zB) (prs:=zO []) (N:=14) sp47_ok Try.func47 Try.ntmps47 (by kernel_rfl) (zK (by kernel_rfl)) rfl ((n47y i l z z1 z2 _ _).mpr ?_)
 obtain ⟨h0,h1,t,n,ls,e⟩:=hp
 exact ⟨h0,h1,t,n,ls,e,by rw [e];rfl,rfl⟩
theorem s47_inv {rest:List V} {l:LK} {k:V→Prop} (h:s47 rest l k):∃i,rest=[.int .i64 i]∧(0≤i∧i<l.ag.length∧∃(t n:Int) (ls:List V),getV l.ag i=.agg [.int .i64 t,.int .i64 n,.list false ls])∧k (.int .i64 (nV (getV l.ag i))):=by
 unfold s47 at h
 split at h
 ·obtain ⟨h0,h1,t,n,ls,e,h2⟩:=h
  exact ⟨_,rfl,⟨h0,h1,t,n,ls,e⟩,by rw [e];exact h2⟩
 ·exact h.elim
theorem h47N_ok:HOk Try.prog 47 hbN:=by
 intro hvc rest H1 id k hk
 unfold hbN at hk
 split at hk
 ·rename_i c
  split at hk
  ·rename_i z t hc
   split at hk
   ·rename_i a1 a2 a3 x0 x1 ys x3 x4 e n a6 a7
    split at hk
    ·rename_i y m
     split at hk
     ·rename_i E z1 rows he
      split at hk
      ·rename_i F z2 yr hy
       rw [zE,zE] at hk
       obtain ⟨hE,hF,hk⟩:=hk
       have hE:=Nat.eq_of_beq_eq_true hE
       have hF:=Nat.eq_of_beq_eq_true hF
       subst hE hF
       split at hk
       ·rename_i hey
        have hey:e≠y:=fun h=>by rw [h,Nat.beq_refl] at hey;cases hey
        obtain ⟨l,ht,hr,hyr,hs⟩:=hk
        subst hr hyr
        obtain ⟨i,rfl,hp,hs⟩:=s47_inv hs
        refine ⟨_,_,hsem_pey_ro (t:=lkY l 1 2) hey hc he hy (by rw [lkY_ren];exact ht.symm) ?_ ?_ (fun j hj=>?_) rfl (c47y i l hp z z1 z2),hs⟩
        ·rw [ht,lkY_ids];simp
        ·rw [ht,lkY_ids];simp
        ·rw [lkY_ids] at hj;simp at hj;omega
       ·exact hk.elim
      ·exact hk.elim
     ·exact hk.elim
    ·exact h47_ok _ _ _ _ _ hk
   ·exact hk.elim
  ·exact hk.elim
 ·exact hk.elim
theorem sp71_ok:SpOk Try.prog sp71:=zA b88_ok (zD)
theorem c71 (tg n:Int) (ls:List V) (l:LK) (hp:LOk l):LR 71 [.agg [.int .i64 tg,.int .i64 n,.list false ls]] l (.agg [.int .i64 (whatK l tg n).1,.int .i64 (whatK l tg n).2]):=by
 intro z z1
 refine callQ_go (own:=none) (pur:=[]) (n1:=1000) (η:=[(0,⟨none,z,lkV l 1⟩),(1,⟨some 79,z1,.agg l.es⟩)]) (η1:=[(0,⟨none,z,lkV l 1⟩),(1,⟨some 79,z1,.agg l.es⟩)]) (ids:=[0,1]) (ks:=[⟨none,z,lkV l 1⟩,⟨some 79,z1,.agg l.es⟩]) (hint:=none) (Ls:=noLs) (hints:=zB) (prs:=zN Try.f71) (N:=16) sp71_ok Try.func71 Try.ntmps71 (by kernel_rfl) (zK (by kernel_rfl)) rfl ((n71 tg n ls l z z1 _ _).mpr ?_)
 exact ⟨hp.1.1,⟨⟨_,rfl⟩,hp.2.1⟩,_,rfl,fun q e=>by subst e;exact ⟨rfl,rfl⟩⟩
theorem h71_ok:HOk Try.prog 71 (hbR s71):=hbR_ok fun rest l k h=>by
 unfold s71 at h
 split at h
 ·exact ⟨_,c71 _ _ _ _ h.1,rfl,h.2 _ rfl⟩
 ·exact h.elim
theorem sp85_ok:SpOk Try.prog sp85:=zH h57M_ok (zD)
theorem c85 (n:Int) (l:LK):LC 85 [.int .i64 n] l (.tup []) (takeL l n):=by
 refine callQ_go (own:=none) (pur:=[]) (n1:=1000) (η:=[(0,⟨none,false,lkV l 1⟩),(1,⟨some 79,false,.agg l.es⟩)]) (η1:=[(0,⟨none,false,lkV l 1⟩),(1,⟨some 79,false,.agg l.es⟩)]) (ids:=[0,1]) (ks:=[⟨none,false,lkV (takeL l n) 1⟩,⟨some 79,false,.agg (takeL l n).es⟩]) (hint:=none) (Ls:=noLs) (hints:=zB) (prs:=zO []) (N:=24) sp85_ok Try.func85 Try.ntmps85 (by kernel_rfl) (zK (by kernel_rfl)) rfl ((n85 n l _ _).mpr ?_)
 intro x0 e0;subst e0
 refine ⟨l,rfl,rfl,fun l1 e1 x5 e5=>?_⟩
 subst e1 e5
 exact ⟨rfl,rfl⟩
theorem h85_ok:HOk Try.prog 85 (hbL s85):=hbL_ok fun rest l k h=>by
 unfold s85 at h
 split at h
 ·exact ⟨_,_,c85 _ _,rfl,h _ rfl⟩
 ·exact h.elim
theorem sp80_ok:SpOk Try.prog sp80:=zH h57M_ok (zA b75_ok (zA b59_ok (zA b61_ok (zD))))
theorem c80 (n:Int) (l:LK) (hp:LOk l):LC 80 [.int .i64 n] l (.tup []) (liveL l n):=by
 refine callQ_go (own:=none) (pur:=[]) (n1:=1000) (η:=[(0,⟨none,false,lkV l 1⟩),(1,⟨some 79,false,.agg l.es⟩)]) (η1:=[(0,⟨none,false,lkV l 1⟩),(1,⟨some 79,false,.agg l.es⟩)]) (ids:=[0,1]) (ks:=[⟨none,false,lkV (liveL l n) 1⟩,⟨some 79,false,.agg (liveL l n).es⟩]) (hint:=none) (Ls:=noLs) (hints:=zB) (prs:=zO []) (N:=32) sp80_ok Try.func80 Try.ntmps80 (by kernel_rfl) (zK (by kernel_rfl)) rfl ((n80 n l _ _).mpr ?_)
 refine ⟨_,rfl,fun h1=>⟨⟨⟨_,rfl⟩,hp.2.1⟩,l,rfl,rfl,fun l1 e1=>⟨_,rfl, ?_,fun g eg=>?_⟩⟩,fun h1=>⟨l,rfl,rfl,fun l1 e1=>⟨_,rfl, ?_,fun g eg=>?_⟩⟩⟩
 ·subst e1;exact ⟨⟨_,rfl⟩,hp.2.2.1⟩
 ·subst e1 eg
  have e:liveL l n={ zW l (readyB l.s.fr l.s.ys) with o:={ l.o with f:=cutF l.o.f (clampN n),rm:=0 } }:=by unfold liveL zW;rw [h1];rfl
  rw [e];exact ⟨rfl,rfl⟩
 ·subst e1;exact ⟨⟨_,rfl⟩,hp.2.2.1⟩
 ·subst e1 eg
  have e:liveL l n={ zW l false with o:={ l.o with f:=cutF l.o.f (clampN n),rm:=0 } }:=by unfold liveL zW;rw [h1];rfl
  rw [e];exact ⟨rfl,rfl⟩
theorem h80_ok:HOk Try.prog 80 (hbL s80):=hbL_ok fun rest l k h=>by
 unfold s80 at h
 split at h
 ·exact ⟨_,_,c80 _ _ h.1,rfl,h.2 _ rfl⟩
 ·exact h.elim
theorem sp74_ok:SpOk Try.prog sp74:=zA b61_ok (zA b62_ok (zD))
theorem c74 (l:LK) (hp:LOk l):LC 74 [] l (.tup []) (calledL l):=by
 refine callQ_go (own:=none) (pur:=[]) (n1:=1000) (η:=[(0,⟨none,false,lkV l 1⟩),(1,⟨some 79,false,.agg l.es⟩)]) (η1:=[(0,⟨none,false,lkV l 1⟩),(1,⟨some 79,false,.agg l.es⟩)]) (ids:=[0,1]) (ks:=[⟨none,false,lkV (calledL l) 1⟩,⟨some 79,false,.agg (calledL l).es⟩]) (hint:=none) (Ls:=noLs) (hints:=zB) (prs:=zN Try.f74) (N:=20) sp74_ok Try.func74 Try.ntmps74 (by kernel_rfl) (zK (by kernel_rfl)) rfl ((n74 l _ _).mpr ?_)
 refine ⟨_,rfl,⟨⟨_,rfl⟩,hp.2.2.1⟩,fun g e=>⟨Int.le_refl _,by decide, ?_⟩⟩
 subst e
 exact ⟨rfl,rfl⟩
theorem h74_ok:HOk Try.prog 74 (hbL s74):=hbL_ok fun rest l k h=>by
 unfold s74 at h
 split at h
 ·exact ⟨_,_,c74 _ h.1,rfl,h.2 _ rfl⟩
 ·exact h.elim
theorem sp83_ok:SpOk Try.prog sp83:=zH h71_ok (zH h57M_ok (zD))
theorem c83 (tg n:Int) (ls:List V) (l:LK) (hp:LOk l):LC 83 [.agg [.int .i64 tg,.int .i64 n,.list false ls]] l (.tup []) (zW l ((whatK l tg n).1==128)):=by
 refine callQ_go (own:=none) (pur:=[]) (n1:=1000) (η:=[(0,⟨none,false,lkV l 1⟩),(1,⟨some 79,false,.agg l.es⟩)]) (η1:=[(0,⟨none,false,lkV l 1⟩),(1,⟨some 79,false,.agg l.es⟩)]) (ids:=[0,1]) (ks:=[⟨none,false,lkV (zW l ((whatK l tg n).1==128)) 1⟩,⟨some 79,false,.agg (zW l ((whatK l tg n).1==128)).es⟩]) (hint:=none) (Ls:=noLs) (hints:=zB) (prs:=zO []) (N:=11) sp83_ok Try.func83 Try.ntmps83 (by kernel_rfl) (zK (by kernel_rfl)) rfl ((n83 tg n ls l _ _).mpr ?_)
 refine ⟨l,rfl,rfl,hp,fun q e x e3=>⟨l,rfl,rfl,fun l1 e1=>?_⟩⟩
 subst e e3 e1
 exact ⟨rfl,rfl⟩
theorem h83_ok:HOk Try.prog 83 (hbL s83):=hbL_ok fun rest l k h=>by
 unfold s83 at h
 split at h
 ·exact ⟨_,_,c83 _ _ _ _ h.1,rfl,h.2 _ rfl⟩
 ·exact h.elim
theorem sp78_ok:SpOk Try.prog sp78:=zH h57M_ok (zA b90_ok (zA b91_ok (zD)))
theorem c78 (tg n:Int) (ls:List V) (m a:Int) (l:LK) (hp:LOk l):LC 78 [.agg [.int .i64 tg,.int .i64 n,.list false ls],.agg [.int .i64 m,.int .i64 a]] l (.tup []) (dstL l tg n m a):=by
 refine callQ_go (own:=none) (pur:=[]) (n1:=1000) (η:=[(0,⟨none,false,lkV l 1⟩),(1,⟨some 79,false,.agg l.es⟩)]) (η1:=[(0,⟨none,false,lkV l 1⟩),(1,⟨some 79,false,.agg l.es⟩)]) (ids:=[0,1]) (ks:=[⟨none,false,lkV (dstL l tg n m a) 1⟩,⟨some 79,false,.agg (dstL l tg n m a).es⟩]) (hint:=none) (Ls:=noLs) (hints:=zB) (prs:=zN Try.f78) (N:=40) sp78_ok Try.func78 Try.ntmps78 (by kernel_rfl) (zK (by kernel_rfl)) rfl ((n78 tg n ls m a l _ _).mpr ?_)
 intro x0 e0;subst e0
 have hgo:dstBad l tg n=false→SOk (arrF 16 l.o.f) l.o.ys l.o.ts∧∃f8:Nat→Int×Int,arrF 16 l.o.f=arrF 16 f8∧∀(g9:Nat→Int×Int),g9=putF f8 tg n m a→∀zs:List V,zs=putZ l.o.fr l.o.ys tg n m a→∀ok:Bool,ok=putO l.o.fr l.o.ys tg n→∃l15:LK,lkV l 1=lkV l15 1∧l.es=l15.es∧∀l16,l16=zW l15 ok→
   (l16.rt=true→V.tup []=V.tup []∧[⟨none,false,lkV (dstL l tg n m a) 1⟩,⟨some 79,false,.agg (dstL l tg n m a).es⟩]=[(⟨none,false,V.agg [mdV l16.m,.agg [.int .i64 l16.op,.list false l16.ag],fsV l16.s,.agg [.agg (arrF 16 g9),.bool l.o.fr,.list false zs,.int .i64 l.o.rm,.list false l.o.ts],.sl 1 l16.es.length,.bool l16.g,.bool l16.rt]⟩:Blk),⟨some 79,false,.agg l16.es⟩])∧
   (l16.rt=false→V.tup []=V.tup []∧[⟨none,false,lkV (dstL l tg n m a) 1⟩,⟨some 79,false,.agg (dstL l tg n m a).es⟩]=[(⟨none,false,lkV l16 1⟩:Blk),⟨some 79,false,.agg l16.es⟩]):=by
  intro hb
  have hd:dstGo l tg n=putO l.o.fr l.o.ys tg n:=by simp [dstGo,hb]
  refine ⟨⟨⟨_,rfl⟩,hp.2.2.1⟩,_,rfl,fun g eg zs ez ok eo=>⟨l,rfl,rfl,fun l1 e1=>⟨fun h=>?_,fun h=>?_⟩⟩⟩
  ·subst eg ez eo e1
   have h2:l.rt=true∧putO l.o.fr l.o.ys tg n=true:=by
    simp only [zW] at h
    split at h
    ·exact ⟨‹_›,h⟩
    ·cases h
   have e:dstL l tg n m a={ zW l (putO l.o.fr l.o.ys tg n) with o:={ l.o with f:=putF l.o.f tg n m a,ys:=putZ l.o.fr l.o.ys tg n m a } }:=by
    unfold dstL zW;rw [hd];simp [h2.1,h2.2]
   rw [e];exact ⟨rfl,rfl⟩
  ·subst eg ez eo e1
   have e:dstL l tg n m a=zW l (putO l.o.fr l.o.ys tg n):=by
    unfold dstL zW;rw [hd]
    simp only [zW] at h
    split at h
    ·rename_i h1;simp [h1,h]
    ·rename_i h1;simp [h1]
   rw [e];exact ⟨rfl,rfl⟩
 refine ⟨fun h9004=>⟨hp.2.2.1.2.2.1,by have:=hp.2.2.1.2.2.2;omega,fun hm=>⟨l,rfl,rfl,fun l1 e1=>?_⟩,fun hm=>?_⟩,fun h9004=>?_⟩
 ·subst e1
  have hb:dstGo l tg n=false:=by simp [dstGo,dstBad,h9004,hm]
  have e:dstL l tg n m a=zW l false:=by unfold dstL zW;rw [hb];simp
  rw [e];exact ⟨rfl,rfl⟩
 ·exact hgo (by simp [dstBad,h9004,hm])
 ·exact hgo (by simp [dstBad,h9004])
theorem h78_ok:HOk Try.prog 78 (hbL s78):=hbL_ok fun rest l k h=>by
 unfold s78 at h
 split at h
 ·exact ⟨_,_,c78 _ _ _ _ _ _ h.1,rfl,h.2 _ rfl⟩
 ·exact h.elim
theorem sp48_ok:SpOk Try.prog sp48:=zH h71_ok (zA b72_ok (zH h57M_ok (zD)))
theorem kdV_must (l:LK) (b:Bool) (v:V):kdV (zW l b) v=kdV l v:=by
 unfold kdV zW whatK
 rfl
theorem srcOk_must (l:LK) (b:Bool):∀xs,srcOk (zW l b) xs=srcOk l xs
 |[]=>rfl
 |v::r=>by simp only [srcOk,kdV_must,srcOk_must l b r]
theorem srcLast_must (l:LK) (b:Bool):∀xs q,srcLast (zW l b) q xs=srcLast l q xs
 |[],q=>rfl
 |v::r,q=>by simp only [srcLast,kdV_must,srcLast_must l b r]
theorem srcL_cons (l:LK) (v:V) (r:List V):srcL l (v::r)=srcL (zW l (plain (kdV l v).1 (kdV l v).2)) r:=by
 unfold srcL
 rw [srcOk_must]
 obtain ⟨m,op,ag,s,o,es,g,rt⟩:=l
 cases rt<;>simp only [srcOk,zW,if_true,if_false,Bool.false_eq_true]
theorem srcL_nil (l:LK):srcL l []=l:=by
 unfold srcL
 obtain ⟨m,op,ag,s,o,es,g,rt⟩:=l
 cases rt<;>simp only [srcOk,if_true,if_false,Bool.false_eq_true]
theorem yB {l:LK} (h:LOk l) (b:Bool):LOk (zW l b):=h
theorem getV_memL {xs:List V} {i:Int} (h0:0≤i) (h:i<xs.length):getV xs i∈xs:=by
 have hlt:i.toNat<xs.length:=by omega
 have:getV xs i=xs[i.toNat]:=by simp [getV,List.getD,hlt]
 rw [this];exact List.getElem_mem hlt
theorem wrap_1 {i:Int} (h0:0≤i) (h1:i<4611686018427387904):IntKind.wrap IntKind.i64 (i+1)=i+1:=by rw [IntKind.wrap_i64];omega
theorem lp48:LsOk Try.prog 23 1005 [0,4,5,8,9,10] [0,1,1000,1001] ent48 (zP Try.f48 0).2:=by
 intro vs ks K h
 unfold ent48 at h
 split at h
 ·rename_i xs n i t rows z m a
  obtain ⟨rfl,rfl,hx,hb,rfl,l,rfl,rfl,hl,hK⟩:=h
  refine zT (hints:=zB) (prs:=zO []) (Ls:=noLs) sp48_ok ends48_0 (γ:=LK×Int×(Int×Int)) (fun g=>[.ptr 0 0 [],.ptr 1000 0 [],.ptr 1001 0 [],.list false xs,.int .i64 xs.length,.int .i64 g.2.1]) (fun g=>[⟨none,false,lkV g.1 1⟩,⟨some 79,false,.agg g.1.es⟩,⟨none,false,.agg [.int .i64 0,.int .i64 0]⟩,⟨none,false,.agg [.int .i64 g.2.2.1,.int .i64 g.2.2.2]⟩]) (fun g=>xs.length-g.2.1.toNat)
   (fun g=>0≤g.2.1∧g.2.1≤xs.length∧LOk g.1∧srcL g.1 (xs.drop g.2.1.toNat)=srcL l xs∧srcLast g.1 g.2.2 (xs.drop g.2.1.toNat)=srcLast l (m,a) xs) K (zK (by kernel_rfl)) ?_ (l,0,(m,a)) ⟨Int.le_refl _,by show (0:Int)≤_;omega,hl,rfl,rfl⟩
  rintro ⟨l1,i,q⟩ ⟨h0,h1,h2,h9003,h9004⟩
  simp only at h0 h1 h2 h9003 h9004
  refine (nl48_0 l1 xs _ i q.1 q.2 _ _ _).mpr ?_
  intro x hx0;subst hx0
  refine ⟨fun h9005=>?_,fun h9005=>?_⟩
  ·simp only [decide_eq_true_eq] at h9005
   rw [drop_dec h0 h9005] at h9003 h9004
   obtain ⟨tg,n,ls,e⟩:=hx _ (getV_memL h0 h9005)
   refine ⟨h0,h9005,tg,n,ls,e,l1,rfl,rfl,h2,fun q1 e1=>⟨l1,rfl,rfl,fun l2 e2=>?_⟩⟩
   have hk:kdV l1 (getV xs i)=q1:=by rw [e,e1];rfl
   rw [srcL_cons,hk,←e2] at h9003
   have h4':srcLast l2 q1 (xs.drop (i+1).toNat)=srcLast l (m,a) xs:=by
    rw [←h9004,e2,srcLast_must]
    simp only [srcLast,hk]
   have hl2:LOk l2:=by rw [e2];exact yB h2 _
   intro y hy
   rw [wrap_1 h0 (by omega)] at hy
   subst hy
   exact ⟨hl2.2.2.2,(l2,i+1,q1),rfl,rfl,by show xs.length-(i+1).toNat<xs.length-i.toNat;omega,by show 0≤i+1;omega,by show i+1≤_;omega,hl2,h9003,h4'⟩
  ·simp only [decide_eq_false_iff_not] at h9005
   have hd:xs.drop i.toNat=[]:=List.drop_eq_nil_of_le (by omega)
   rw [hd] at h9003 h9004
   rw [srcL_nil] at h9003
   refine ⟨h2.2.2.2, ?_⟩
   exact hK l1 h9003 q h9004.symm.symm
 ·exact h.elim
theorem c48 (xs:List V) (l:LK) (hp:LOk l∧ArgL xs∧xs.length≤100000):LC 48 [.list false xs] l (.agg [.int .i64 (srcLast l (0,0) xs).1,.int .i64 (srcLast l (0,0) xs).2]) (srcL l xs):=by
 refine callQ_go (own:=none) (pur:=[]) (n1:=1000) (η:=[(0,⟨none,false,lkV l 1⟩),(1,⟨some 79,false,.agg l.es⟩)]) (η1:=[(0,⟨none,false,lkV l 1⟩),(1,⟨some 79,false,.agg l.es⟩)]) (ids:=[0,1]) (ks:=[⟨none,false,lkV (srcL l xs) 1⟩,⟨some 79,false,.agg (srcL l xs).es⟩]) (hint:=none) (Ls:=ls48) (hints:=zB) (prs:=zO []) (N:=23) sp48_ok Try.func48 Try.ntmps48 (by kernel_rfl) (zR fun p hp=>by
  have e:loopsOf 0 (zC Try.f48)=[zP Try.f48 0]:=by kernel_rfl
  rw [e] at hp
  simp only [List.mem_cons,List.not_mem_nil,or_false] at hp
  subst hp
  exact zU lp48) rfl ((n48 xs l _ _).mpr ?_)
 intro _ x1 e1
 refine ⟨hp.1.2.2.2,rfl,e1,hp.2.1,hp.2.2,rfl,l,rfl,rfl,hp.1,fun l' e2 q e3=>?_⟩
 subst e2 e3
 exact ⟨rfl,rfl⟩
theorem h48_ok:HOk Try.prog 48 (hbL s48):=hbL_ok fun rest l k h=>by
 unfold s48 at h
 split at h
 ·exact ⟨_,_,c48 _ _ ⟨h.1,h.2.1,h.2.2.1⟩,rfl,h.2.2.2 _ rfl _ rfl⟩
 ·exact h.elim
theorem sp46_ok:SpOk Try.prog sp46:=zD
theorem edge_ids (s:FS):∀ns,NoIds (edgeRows s ns)
 |[],v,hv=>by cases hv
 |x::r,v,hv=>by
  unfold edgeRows at hv
  split at hv
  ·cases hv
  ·rename_i e
   split at hv
   ·rcases List.mem_cons.1 hv with rfl|hv
    ·rfl
    ·cases e;exact edge_ids s _ v hv
   ·cases e;exact edge_ids s _ v hv
  ·rename_i e;cases e;exact edge_ids s _ v hv
theorem edge_len (s:FS):∀ns,(edgeRows s ns).length≤ns.length
 |[]=>Nat.le_refl _
 |x::r=>by
  have:=edge_len s r
  unfold edgeRows
  split
  ·simp
  ·rename_i e;cases e
   split<;>simp<;>omega
  ·rename_i e;cases e;simp;omega
theorem yC {l:LK} (h:LOk l) (s:FS) (ns:List V):LOk (edgeL l s ns):=by
 refine ⟨h.1,h.2.1,h.2.2.1,fun v hv=>?_⟩
 rcases List.mem_append.1 hv with hv|hv
 ·exact h.2.2.2 v hv
 ·exact edge_ids s ns v hv
theorem edgeL_nil (l:LK) (s:FS):edgeL l s []=l:=by
 obtain ⟨m,op,ag,s1,o,es,g,rt⟩:=l
 simp [edgeL,edgeRows]
theorem edgeL_cons (l:LK) (s:FS) (n:Int) (r:List V):edgeL l s (.int .i64 n::r)=edgeL (if (n != 0)=true then { l with es:=l.es++[.agg [.int .i64 n,fsV s]] } else l) s r:=by
 simp only [edgeL,edgeRows]
 split<;>simp
theorem row_sz (n:Int) (s:FS):V.sz (.agg [.int .i64 n,fsV s])=37:=by kernel_rfl
theorem lkV_push (l:LK) (row:V):lkV { l with es:=l.es++[row] } 1=.agg [mdV l.m,.agg [.int .i64 l.op,.list false l.ag],fsV l.s,fsV l.o,.sl 1 (l.es.length+[row].length),.bool l.g,.bool l.rt]:=by
 unfold lkV
 simp
theorem lp46:LsOk Try.prog 29 1004 [0,4,8,9,10] [0,1,1000] ent46 (zP Try.f46 0).2:=by
 intro vs ks K h
 unfold ent46 at h
 split at h
 ·rename_i ns n i t rows X fr ys rm ts
  obtain ⟨rfl,rfl,hn,hb,f,rfl,l,rfl,rfl,hl,he,hK⟩:=h
  refine zT (hints:=zB) (prs:=zN Try.f46) (Ls:=noLs) sp46_ok ends46_0 (γ:=LK×Int) (fun g=>[.ptr 0 0 [],.ptr 1000 0 [],.list false ns,.int .i64 ns.length,.int .i64 g.2]) (fun g=>[⟨none,false,lkV g.1 1⟩,⟨some 79,false,.agg g.1.es⟩,⟨none,false,fsV ⟨f,fr,ys,rm,ts⟩⟩]) (fun g=>ns.length-g.2.toNat)
   (fun g=>0≤g.2∧g.2≤ns.length∧LOk g.1∧g.1.es.length≤5000+g.2.toNat∧edgeL g.1 ⟨f,fr,ys,rm,ts⟩ (ns.drop g.2.toNat)=edgeL l ⟨f,fr,ys,rm,ts⟩ ns) K (zK (by kernel_rfl)) ?_ (l,0) ⟨Int.le_refl _,by show (0:Int)≤_;omega,hl,he,rfl⟩
  rintro ⟨l1,i⟩ ⟨h0,h1,h2,h9003,h9004⟩
  simp only at h0 h1 h2 h9003 h9004
  refine (nl46_0 l1 ⟨f,fr,ys,rm,ts⟩ ns _ i _ _ _).mpr ?_
  intro x hx0;subst hx0
  refine ⟨fun h9005=>?_,fun h9005=>?_⟩
  ·simp only [decide_eq_true_eq] at h9005
   rw [drop_dec h0 h9005] at h9004
   obtain ⟨n,e⟩:=hn _ (getV_memL h0 h9005)
   rw [e,edgeL_cons] at h9004
   refine ⟨h0,h9005,n,e,fun x4 e4=>?_⟩
   subst e4
   refine ⟨fun h8=>⟨⟨rfl,rfl,⟨rfl,trivial⟩,fun v hv=>?_,rfl,rfl,328,rfl, ?_, ?_⟩,fun y hy=>?_⟩,fun h8 y hy=>?_⟩
   ·have h26:=List.mem_singleton.1 hv
    rw [h26]
    exact row_sz n _
   ·simp only [List.length_cons,List.length_nil]
    show (l1.es.length+(0+1))*328≤_
    omega
   ·simp only [List.length_cons,List.length_nil]
    show l1.es.length+(0+1)≤_
    omega
   ·rw [wrap_1 h0 (by omega)] at hy
    subst hy
    rw [if_pos h8] at h9004
    have hl2:LOk { l1 with es:=l1.es++[.agg [.int .i64 n,fsV ⟨f,fr,ys,rm,ts⟩]] }:=⟨h2.1,h2.2.1,h2.2.2.1,fun v hv=>by
     rcases List.mem_append.1 hv with hv|hv
     ·exact h2.2.2.2 v hv
     ·simp at hv;subst hv;rfl⟩
    refine ⟨hl2.2.2.2,({ l1 with es:=l1.es++[.agg [.int .i64 n,fsV ⟨f,fr,ys,rm,ts⟩]] },i+1),rfl, ?_,by show ns.length-(i+1).toNat<ns.length-i.toNat;omega,by show 0≤i+1;omega,by show i+1≤_;omega,hl2, ?_,h9004⟩
    ·show _=([⟨none,false,lkV { l1 with es:=l1.es++[.agg [.int .i64 n,fsV ⟨f,fr,ys,rm,ts⟩]] } 1⟩,_,_]:List Blk)
     rw [lkV_push];rfl
    ·show (l1.es++[_]).length≤5000+(i+1).toNat
     rw [List.length_append];simp only [List.length_cons,List.length_nil];omega
   ·rw [wrap_1 h0 (by omega)] at hy
    subst hy
    rw [if_neg (by rw [h8];decide)] at h9004
    exact ⟨h2.2.2.2,(l1,i+1),rfl,rfl,by show ns.length-(i+1).toNat<ns.length-i.toNat;omega,by show 0≤i+1;omega,by show i+1≤_;omega,h2,by show l1.es.length≤5000+(i+1).toNat;omega,h9004⟩
  ·simp only [decide_eq_false_iff_not] at h9005
   have hd:ns.drop i.toNat=[]:=List.drop_eq_nil_of_le (by omega)
   rw [hd,edgeL_nil] at h9004
   exact ⟨h2.2.2.2,hK l1 h9004⟩
 ·exact h.elim
theorem c46 (s:FS) (ns:List V) (l:LK) (hp:LOk l∧NLs ns∧ns.length≤1000∧l.es.length≤5000):LC 46 [fsV s,.list false ns] l (.tup []) (edgeL l s ns):=by
 refine callQ_go (own:=none) (pur:=[]) (n1:=1000) (η:=[(0,⟨none,false,lkV l 1⟩),(1,⟨some 79,false,.agg l.es⟩)]) (η1:=[(0,⟨none,false,lkV l 1⟩),(1,⟨some 79,false,.agg l.es⟩)]) (ids:=[0,1]) (ks:=[⟨none,false,lkV (edgeL l s ns) 1⟩,⟨some 79,false,.agg (edgeL l s ns).es⟩]) (hint:=none) (Ls:=ls46) (hints:=zB) (prs:=zN Try.f46) (N:=29) sp46_ok Try.func46 Try.ntmps46 (by kernel_rfl) (zR fun p hp=>by
  have e:loopsOf 0 (zC Try.f46)=[zP Try.f46 0]:=by kernel_rfl
  rw [e] at hp
  simp only [List.mem_cons,List.not_mem_nil,or_false] at hp
  subst hp
  exact zU lp46) rfl ((n46 s ns l _ _).mpr ?_)
 intro _ x1 e1
 refine ⟨hp.1.2.2.2,rfl,e1,hp.2.1,hp.2.2.1,_,rfl,l,rfl,rfl,hp.1,hp.2.2.2,fun l' e2=>?_⟩
 subst e2
 exact ⟨rfl,rfl⟩
theorem h46_ok:HOk Try.prog 46 (hbL s46):=hbL_ok fun rest l k h=>by
 unfold s46 at h
 split at h
 ·obtain ⟨h1,h2,h9003,h9004,f,rfl,h9005⟩:=h
  exact ⟨_,_,c46 ⟨f,_,_,_,_⟩ _ _ ⟨h1,h2,h9003,h9004⟩,rfl,h9005 _ rfl⟩
 ·exact h.elim
theorem sp73_ok:SpOk Try.prog sp73:=zH h57M_ok (zA b72_ok (zD))
theorem plains_step (f:Nat→Int×Int) (i k:Nat) (h:i<k):plainsN f i (k-i)=(if plain (f i).1 (f i).2=true then plainsN f (i+1) (k-(i+1)) else false):=by
 obtain ⟨d,rfl⟩:∃d,k=i+1+d:=⟨k-(i+1),by omega⟩
 have e1:i+1+d-i=d+1:=by omega
 have e2:i+1+d-(i+1)=d:=by omega
 rw [e1,e2];rfl
theorem sub_lk (l:LK) {j:Nat} (h:j<16):subQ (lkV l 1) [2,0,j]=some (.agg [.int .i64 (l.s.f j).1,.int .i64 (l.s.f j).2]):=by
 have:=sub_arr l.s.f h
 simp only [subQ,lkV,fsV,V.sub,List.getElem?_cons_succ,List.getElem?_cons_zero] at this ⊢
 exact this
theorem off_lk (l:LK) {j:Nat} (h:j<16):offQ (lkV l 1) [2,0,j]=8+j*2:=by
 have e:offQ (lkV l 1) [2,0,j]=8+offQ (.agg (arrF 16 l.s.f)) [j]:=by
  have e1:offQ (lkV l 1) [2,0,j]=V.szs [mdV l.m,V.agg [V.int IntKind.i64 l.op,V.list false l.ag]]+(V.szs []+offQ (.agg (arrF 16 l.s.f)) [j]):=rfl
  have e2:V.szs [mdV l.m,V.agg [V.int IntKind.i64 l.op,V.list false l.ag]]=8:=by kernel_rfl
  rw [e1,e2];simp [V.szs]
 rw [e,off_arr l.s.f h]
theorem lp73:LsOk Try.prog 28 1013 [0,17,18,19] [0,1] ent73 (zP Try.f73 0).2:=by
 intro vs ks K h
 unfold ent73 at h
 split at h
 ·rename_i k n i t rows
  obtain ⟨rfl,rfl,hk,l,rfl,rfl,hl,hK⟩:=h
  refine zT (hints:=hintOf [(3001,52)]) (prs:=zO []) (Ls:=noLs) sp73_ok ends73_0 (γ:=LK×Int) (fun g=>[.ptr 0 0 [],.own k [.ptr 0 8 [2,0]],.int .i64 k,.int .i64 g.2]) (fun g=>[⟨none,false,lkV g.1 1⟩,⟨some 79,false,.agg g.1.es⟩]) (fun g=>k-g.2.toNat)
   (fun g=>0≤g.2∧g.2≤k∧LOk g.1∧{ g.1 with rt:=if g.1.rt=true then plainsN g.1.s.f g.2.toNat (k-g.2.toNat) else false }={ l with rt:=if l.rt=true then plainsN l.s.f 0 k else false }) K (zK (by kernel_rfl)) ?_ (l,0) ⟨Int.le_refl _,by show (0:Int)≤_;omega,hl,rfl⟩
  rintro ⟨l1,i⟩ ⟨h0,h1,h2,h9004⟩
  simp only at h0 h1 h2 h9004
  refine (nl73_0 l1 k _ i _ _ _).mpr ?_
  intro x hx0;subst hx0
  refine ⟨fun h9005=>?_,fun h9005=>?_⟩
  ·simp only [decide_eq_true_eq] at h9005
   have hlt:i.toNat<k:=by omega
   refine ⟨h0,h9005,(l1.s.f i.toNat).1,(l1.s.f i.toNat).2,sub_lk l1 (by omega),off_lk l1 (by omega),l1,rfl,rfl,fun l2 e2 y hy=>?_⟩
   rw [wrap_1 h0 (by omega)] at hy
   subst hy e2
   have et:(i+1).toNat=i.toNat+1:=by omega
   refine ⟨h2.2.2.2,(_,i+1),rfl,rfl,by show k-(i+1).toNat<k-i.toNat;omega,by show 0≤i+1;omega,by show i+1≤_;omega,yB h2 _, ?_⟩
   rw [←h9004,plains_step _ _ _ hlt]
   show ({ l1 with rt:=if (if l1.rt=true then plain (l1.s.f i.toNat).1 (l1.s.f i.toNat).2 else false)=true then plainsN l1.s.f (i+1).toNat (k-(i+1).toNat) else false }:LK)=_
   rw [et]
   cases l1.rt<;>simp only [if_true,if_false,Bool.false_eq_true]
  ·simp only [decide_eq_false_iff_not] at h9005
   have e:k-i.toNat=0:=by omega
   rw [e] at h9004
   refine ⟨h2.2.2.2,hK l1 ?_⟩
   rw [←h9004]
   obtain ⟨m,op,ag,s,o,es,g,rt⟩:=l1
   cases rt<;>simp only [plainsN,if_true,if_false,Bool.false_eq_true]
 ·exact h.elim
theorem c73 (n:Int) (l:LK) (hp:LOk l):LC 73 [.int .i64 n] l (.tup []) (plainL l n):=by
 refine callQ_go (own:=none) (pur:=[]) (n1:=1000) (η:=[(0,⟨none,false,lkV l 1⟩),(1,⟨some 79,false,.agg l.es⟩)]) (η1:=[(0,⟨none,false,lkV l 1⟩),(1,⟨some 79,false,.agg l.es⟩)]) (ids:=[0,1]) (ks:=[⟨none,false,lkV (plainL l n) 1⟩,⟨some 79,false,.agg (plainL l n).es⟩]) (hint:=none) (Ls:=ls73) (hints:=(hintOf [(3001,52)])) (prs:=zO []) (N:=28) sp73_ok Try.func73 Try.ntmps73 (by kernel_rfl) (zR fun p hp=>by
  have e:loopsOf 0 (zC Try.f73)=[zP Try.f73 0]:=by kernel_rfl
  rw [e] at hp
  simp only [List.mem_cons,List.not_mem_nil,or_false] at hp
  subst hp
  exact zU lp73) rfl ((n73 n l _ _).mpr ?_)
 intro x0 e0;subst e0
 refine ⟨l,rfl,rfl,fun l1 e1 x5 e5=>⟨fun h=>?_,fun h=>?_⟩⟩
 ·subst e1 e5
  have hr:(zW l (decide (n≤16))).rt=false:=by simpa using h
  have e:plainL l n=zW l (decide (n≤16)):=by
   obtain ⟨m,op,ag,s,o,es,g,rt⟩:=l
   unfold plainL zW
   simp only [zW] at hr ⊢
   cases rt<;>simp only [if_true,if_false,Bool.false_eq_true] at hr ⊢
   rw [hr];simp
  rw [e];exact ⟨rfl,rfl⟩
 ·subst e1 e5
  have hr:(zW l (decide (n≤16))).rt=true:=by simpa using h
  have h2:l.rt=true∧n≤16:=by
   simp only [zW] at hr
   split at hr
   ·exact ⟨‹_›,by simpa using hr⟩
   ·cases hr
  intro z ez
  have hz:0≤z∧z≤16∧z.toNat=n.toNat:=by rw [ez];split<;>omega
  refine ⟨hz.1,hz.2.1,fun x11 e11=>⟨hp.2.2.2,rfl,e11,by omega,zW l (decide (n≤16)),rfl,rfl,yB hp _,fun l' e'=>?_⟩⟩
  have e:l'=plainL l n:=by
   rw [e',hz.2.2]
   unfold plainL zW
   simp [h2.1,h2.2]
  rw [e];exact ⟨rfl,rfl⟩
theorem h73_ok:HOk Try.prog 73 (hbL s73):=hbL_ok fun rest l k h=>by
 unfold s73 at h
 split at h
 ·exact ⟨_,_,c73 _ _ h.1,rfl,h.2 _ rfl⟩
 ·exact h.elim
end GoL
