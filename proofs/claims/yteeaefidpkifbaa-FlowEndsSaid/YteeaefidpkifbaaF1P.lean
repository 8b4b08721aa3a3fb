/- A part of the proof: a logic proved sound over the model; contracts; plain laws. -/
import Derived.Test.YteeaefidpkifbaaF1N
set_option linter.all false
open Go Go.Proofs
namespace GoL
set_option maxRecDepth 8000
attribute [local irreducible] wC
theorem uR {l:List V} (h:uB l) {i:Int} (h0:0≤i) (h1:i<l.length):∃(op:Int) (ag:List V),getV l i=.agg [.int .i64 op,.list false ag]∧∀u∈ag,T28 u:=h.1 _ (getV_memL h0 h1)
theorem t28_get {ag:List V} (h:∀u∈ag,T28 u) {i:Int} (h0:0≤i) (h1:i<ag.length):∃(t n:Int) (ls:List V),getV ag i=.agg [.int .i64 t,.int .i64 n,.list false ls]:=by
 have:=h _ (getV_memL h0 h1)
 cases hv:getV ag i<;>rw [hv] at this<;>cases this
 exact ⟨_,_,_,rfl⟩
theorem sp18_ok:SpOk Try.prog sp18:=zD
theorem c18 (l:List V) (i:Int) (hl:uB l) (h0:0≤i):CallP Try.prog 18 [.list false l,.int .i64 i] (.int .i64 (opA l i)):=by
 refine zJ sp18_ok Try.func18 Try.ntmps18 (by kernel_rfl) ((n18 l i _).mpr ?_)
 intro _ x e x3 e3
 subst e e3
 refine ⟨fun h=>?_,fun h=>?_⟩
 ·have h1:i<l.length:=of_decide_eq_true h
  obtain ⟨op,ag,hg,_⟩:=uR hl h0 h1
  refine ⟨h0,h1,op,ag,hg, ?_⟩
  unfold opA
  rw [if_pos h,hg];rfl
 ·unfold opA
  rw [if_neg (by rw [h];decide)]
theorem b18_ok (args:List V) (k:V→Prop) (h:b18 args k):∃r,CallP Try.prog 18 args r∧k r:=by
 unfold b18 at h
 split at h
 ·exact ⟨_,c18 _ _ h.1.1 h.1.2,h.2⟩
 ·exact h.elim
theorem sp19_ok:SpOk Try.prog sp19:=zD
theorem c19 (op n:Int) (ag:List V) (ha:∀u∈ag,T28 u) (h0:0≤n):CallP Try.prog 19 [.agg [.int .i64 op,.list false ag],.int .i64 n] (.int .i64 (numA ag n)):=by
 refine zJ sp19_ok Try.func19 Try.ntmps19 (by kernel_rfl) ((n19 op n ag _).mpr ?_)
 intro _ x e x3 e3
 subst e e3
 refine ⟨fun h=>?_,fun h=>?_⟩
 ·have h1:n<ag.length:=of_decide_eq_true h
  obtain ⟨t,m,ls,hg⟩:=t28_get ha h0 h1
  refine ⟨h0,h1,t,m,ls,hg, ?_⟩
  unfold numA
  rw [if_pos h,hg];rfl
 ·unfold numA
  rw [if_neg (by rw [h];decide)]
theorem b19_ok (args:List V) (k:V→Prop) (h:b19 args k):∃r,CallP Try.prog 19 args r∧k r:=by
 unfold b19 at h
 split at h
 ·exact ⟨_,c19 _ _ _ h.1.1 h.1.2,h.2⟩
 ·exact h.elim
theorem sp17_ok:SpOk Try.prog sp17:=zA b18_ok zD
theorem c17 (l:List V) (i:Int) (hl:uB l) (h0:0≤i) (h1:i≤1000000000):CallP Try.prog 17 [.list false l,.int .i64 i] (.bool (beginsB l i)):=by
 refine zJ sp17_ok Try.func17 Try.ntmps17 (by kernel_rfl) ((n17 l i _).mpr ?_)
 refine ⟨⟨hl,h0⟩,fun x e=>⟨fun h=>?_,fun h=>?_⟩⟩
 ·intro x3 e3
  rw [wrap_le h0 (by omega)] at e3
  subst e3
  refine ⟨⟨hl,by omega⟩,fun x5 e5=>?_⟩
  unfold beginsB
  rw [←e,if_pos h,e5]
 ·unfold beginsB
  rw [←e,if_neg (by rw [h];decide)]
theorem b17_ok (args:List V) (k:V→Prop) (h:b17 args k):∃r,CallP Try.prog 17 args r∧k r:=by
 unfold b17 at h
 split at h
 ·exact ⟨_,c17 _ _ h.1.1 h.1.2.1 h.1.2.2,h.2⟩
 ·exact h.elim
theorem sF {l:List V} {i:Int} (h0:0≤i) (h:i<l.length):bodyF l i=if beginsB l i=true then (i,true) else if (insO (getV l i)==3)=true then (i,true) else if (insO (getV l i)==2)=true then (i,false) else bodyF l (i+1):=by
 unfold bodyF
 have e:l.length-i.toNat+1=(l.length-(i+1).toNat+1)+1:=by omega
 rw [e]
 conv=>lhs;unfold bodyN
 rw [if_pos (decide_eq_true h)]
theorem body_end {l:List V} {i:Int} (h:¬i<l.length):bodyF l i=(i,false):=by
 unfold bodyF
 unfold bodyN
 rw [if_neg (by rw [decide_eq_false h];decide)]
theorem sp20_ok:SpOk Try.prog sp20:=zA b17_ok zD
theorem lp20:LsOk Try.prog 34 1002 [0,1] [] ent20 (zP Try.f20 0).2:=by
 intro vs ks K h
 unfold ent20 at h
 split at h
 ·rename_i l i
  obtain ⟨hl,h0,h1,hE,hR⟩:=h
  refine zT (hints:=zB) (prs:=zN Try.f20) (Ls:=noLs) sp20_ok ends20_0 (γ:=Int) (fun j=>[.list false l,.int .i64 j]) (fun _=>[]) (fun j=>(l.length-j.toNat))
   (fun j=>0≤j∧j≤1000000000∧bodyF l j=bodyF l i) K (zK (by kernel_rfl)) ?_ i ⟨h0,h1,rfl⟩
  intro j ⟨j0,j1,hj⟩
  refine (nl20_0 l j _ _ _).mpr ?_
  intro _ x e x3 e3
  subst e e3
  refine ⟨fun h=>?_,fun h=>?_⟩
  ·have hlt:j<l.length:=of_decide_eq_true h
   have hst:=sF j0 hlt
   obtain ⟨op,ag,hg,_⟩:=uR hl j0 hlt
   have hlen:=hl.2
   rw [hj] at hst
   refine ⟨⟨hl,j0,j1⟩,fun hb=>hR j true (by rw [hst,if_pos hb]),fun hb=>⟨j0,hlt,op,ag,hg,fun x10 e10=>⟨fun h10=>?_,fun h10=>⟨j0,hlt,op,ag,hg,fun x16 e16=>⟨fun h16=>?_,fun h16=>?_⟩⟩⟩⟩⟩
   ·refine hR j true ?_
    rw [hst,if_neg (by rw [hb];decide),hg]
    rw [if_pos (by show (op==3)=true;rw [←e10,h10])]
   ·refine hR j false ?_
    rw [hst,if_neg (by rw [hb];decide),hg]
    rw [if_neg (by show ¬(op==3)=true;rw [←e10,h10];decide),if_pos (by show (op==2)=true;rw [←e16,h16])]
   ·intro x20 e20
    rw [wrap_le j0 (by omega)] at e20
    subst e20
    refine ⟨j+1,rfl,rfl,by show l.length-(j+1).toNat<l.length-j.toNat;omega,by show 0≤j+1;omega,by show j+1≤1000000000;omega, ?_⟩
    rw [hst,if_neg (by rw [hb];decide),hg]
    rw [if_neg (by show ¬(op==3)=true;rw [←e10,h10];decide),if_neg (by show ¬(op==2)=true;rw [←e16,h16];decide)]
  ·refine hE j j0 ?_
   rw [←hj]
   exact body_end (of_decide_eq_false h)
 ·exact h.elim
theorem c20 (l:List V) (i:Int) (hl:uB l) (h0:0≤i) (h1:i≤1000000000):CallP Try.prog 20 [.list false l,.int .i64 i] (.tup [.int .i64 (bodyF l i).1,.bool (bodyF l i).2]):=by
 refine call_loops sp20_ok Try.func20 Try.ntmps20 (by kernel_rfl) (zR ?_) ((n20 l i _).mpr ?_)
 ·intro p hp
  have e:loopsOf 0 (zC Try.f20)=[zP Try.f20 0]:=by kernel_rfl
  rw [e] at hp
  simp only [List.mem_singleton] at hp
  subst hp
  exact zU lp20
 ·refine ⟨hl,h0,h1,fun j _ e=>?_,fun j b e=>?_⟩<;>rw [e]
theorem b20_ok (args:List V) (k:V→Prop) (h:b20 args k):∃r,CallP Try.prog 20 args r∧k r:=by
 unfold b20 at h
 split at h
 ·exact ⟨_,c20 _ _ h.1.1 h.1.2.1 h.1.2.2,h.2⟩
 ·exact h.elim
theorem sp38_ok:SpOk Try.prog sp38:=zA b19_ok zD
theorem c38 (op n:Int) (ag:List V) (ha:∀u∈ag,T28 u):CallP Try.prog 38 [.agg [.int .i64 op,.list false ag],.dptr (.int .i64 n)] (.bool (tW n (.agg [.int .i64 op,.list false ag]))):=by
 refine zJ sp38_ok Try.func38 Try.ntmps38 (by kernel_rfl) ((n38 op n ag _).mpr ?_)
 intro x e
 refine ⟨fun h=>⟨⟨ha,Int.le_refl _⟩,fun x5 e5=>?_⟩,fun h=>?_⟩
 ·unfold tW
  rw [if_pos (by show (op==1)=true;rw [←e,h]),e5];rfl
 ·unfold tW
  rw [if_neg (by show ¬(op==1)=true;rw [←e,h];decide)]
theorem b38_ok (args:List V) (k:V→Prop) (h:b38 args k):∃r,CallP Try.prog 38 args r∧k r:=by
 unfold b38 at h
 split at h
 ·exact ⟨_,c38 _ _ _ h.1,h.2⟩
 ·exact h.elim
theorem sp37_ok:SpOk Try.prog sp37:=zA b38_ok zD
theorem lp37:LsOk Try.prog 19 1004 [0,1,7,8] [] ent37 (zP Try.f37 0).2:=by
 intro vs ks K h
 unfold ent37 at h
 split at h
 ·rename_i l n m i
  obtain ⟨hl,rfl,rfl,hE,hR⟩:=h
  refine zT (hints:=zB) (prs:=zN Try.f37) (Ls:=noLs) sp37_ok ends37_0 (γ:=Int) (fun j=>[.list false l,.fn 38 [.dptr (.int .i64 n)],.int .i64 l.length,.int .i64 j]) (fun _=>[]) (fun j=>(l.length-j.toNat))
   (fun j=>0≤j∧uD n (l.drop j.toNat) j=uD n l 0) K (zK (by kernel_rfl)) ?_ 0 ⟨Int.le_refl _,rfl⟩
  intro j ⟨j0,hj⟩
  refine (nl37_0 l n _ j _ _ _).mpr ?_
  intro x e
  subst e
  have hlen:=hl.2
  refine ⟨fun h=>?_,fun h=>?_⟩
  ·have hlt:j<l.length:=of_decide_eq_true h
   obtain ⟨op,ag,hg,ha⟩:=uR hl j0 hlt
   rw [drop_getV j0 hlt,hg] at hj
   conv at hj=>lhs;unfold uD
   refine ⟨j0,hlt,op,ag,hg,ha,fun hp=>?_,fun hp x9 e9=>?_⟩
   ·rw [if_pos hp] at hj
    exact hR j hj.symm (by omega)
   ·rw [if_neg (by rw [hp];decide)] at hj
    rw [wrap_le j0 (by omega)] at e9
    subst e9
    exact ⟨j+1,rfl,rfl,by show l.length-(j+1).toNat<l.length-j.toNat;omega,by show 0≤j+1;omega,hj⟩
  ·rw [drop_end (of_decide_eq_false h)] at hj
   exact hE (by rw [←hj];rfl)
 ·exact h.elim
theorem c37 (l:List V) (n:Int) (hl:uB l):CallP Try.prog 37 [.list false l,.fn 38 [.dptr (.int .i64 n)]] (.int .i64 (uD n l 0)):=by
 refine call_loops sp37_ok Try.func37 Try.ntmps37 (by kernel_rfl) (zR ?_) ((n37 l n _).mpr ?_)
 ·intro p hp
  have e:loopsOf 0 (zC Try.f37)=[zP Try.f37 0]:=by kernel_rfl
  rw [e] at hp
  simp only [List.mem_singleton] at hp
  subst hp
  exact zU lp37
 ·intro _ x e
  subst e
  exact ⟨hl,rfl,rfl,fun h=>by rw [h],fun j h _=>by rw [h]⟩
theorem b37_ok (args:List V) (k:V→Prop) (h:b37 args k):∃r,CallP Try.prog 37 args r∧k r:=by
 unfold b37 at h
 split at h
 ·exact ⟨_,c37 _ _ h.1,h.2⟩
 ·exact h.elim
theorem sp27_ok:SpOk Try.prog sp27:=zA b37_ok zD
theorem c27 (l:List V) (n:Int) (hl:uB l):CallP Try.prog 27 [.list false l,.int .i64 n] (.int .i64 (uD n l 0)):=by
 refine zJ sp27_ok Try.func27 Try.ntmps27 (by kernel_rfl) ((n27 l n _).mpr ?_)
 refine ⟨⟨rfl,fun v hv=>?_⟩,fun _=>⟨hl,rfl⟩⟩
 cases hv with
 |head=>exact ⟨rfl,rfl⟩
 |tail _ h=>cases h
theorem b27_ok (args:List V) (k:V→Prop) (h:b27 args k):∃r,CallP Try.prog 27 args r∧k r:=by
 unfold b27 at h
 split at h
 ·exact ⟨_,c27 _ _ h.1,h.2⟩
 ·exact h.elim
end GoL
