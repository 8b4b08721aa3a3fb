/- A part of the proof: a logic proved sound over the model; contracts; plain laws. -/
import Derived.Test.YteeaefidpkifbaaF6N
set_option linter.all false
open Go Go.Proofs
namespace GoL
set_option maxRecDepth 8000
attribute [local irreducible] wC
theorem nilB_ok {l:List V} (h:nilB l=true):l=[]:=by
 cases l with
 |nil=>rfl
 |cons _ _=>cases h
theorem prB_ok {v:V} (h:prB v=true):∃a b:Int,v=.agg [.int .i64 a,.int .i64 b]:=by
 unfold prB at h
 split at h
 ·exact ⟨_,_,rfl⟩
 ·cases h
theorem okS_ok {s:FS} (h:okS s=true):SOkS s:=by
 unfold okS at h
 rw [Bool.and_eq_true,Bool.and_eq_true] at h
 obtain ⟨h1,h2,h3⟩:=h
 rw [List.all_eq_true] at h1
 have e:=nilB_ok h3
 refine ⟨fun v hv=>prB_ok (h1 v hv),Nat.le_of_ble_eq_true h2,fun v hv=>?_, ?_⟩
 ·rw [e] at hv;cases hv
 ·rw [e];exact Nat.zero_le _
theorem fsOf_ok {v:V} {s:FS} (h:fsOf v=some s):fsV s=v∧SOkS s:=by
 unfold fsOf at h
 split at h
 ·rename_i xs fr ys rm ts
  split at h
  ·rename_i hc
   rw [Bool.and_eq_true,Bool.and_eq_true] at hc
   obtain ⟨h1,h2,h3⟩:=hc
   have h1:=Nat.eq_of_beq_eq_true h1
   rw [List.all_eq_true] at h2
   cases h
   refine ⟨?_,okS_ok (s:=⟨zF,fr,ys,rm,ts⟩) h3⟩
   have e:arrF 16 (fun i=>prP (xs.getD i .junk))=xs:=by
    refine List.ext_getElem (by simp [arrF,h1]) fun i hi hj=>?_
    obtain ⟨a,b,hab⟩:=prB_ok (h2 xs[i] (List.getElem_mem hj))
    simp [arrF,hj,hab,prP]
   unfold fsV
   rw [e]
  ·cases h
 ·cases h
theorem edOf_ok:∀{l:List V} {es:List (Int×FS)},edOf l=some es→edV es=l∧∀p∈es,SOkS p.2
 |[],es,h=>by
  unfold edOf at h
  cases h
  exact ⟨rfl,fun p hp=>by cases hp⟩
 |v::r,es,h=>by
  unfold edOf at h
  split at h
  ·rename_i e;cases e
  ·rename_i n u r' e
   cases e
   split at h
   ·rename_i s hs
    split at h
    ·rename_i es' hes
     cases h
     obtain ⟨a1,a2⟩:=fsOf_ok hs
     obtain ⟨b1,b2⟩:=edOf_ok hes
     refine ⟨?_,fun p hp=>?_⟩
     ·show V.agg [.int .i64 n,fsV s]::edV es'=_
      rw [a1,b1]
     ·rcases List.mem_cons.1 hp with rfl|hp
      ·exact a2
      ·exact b2 p hp
    ·cases h
   ·cases h
  ·cases h
theorem throws_nil {l:LK} (h:l.s.ts=[]):throwsG l=l:=by
 unfold throwsG
 rw [h]
 cases l.rt
 ·rfl
 ·cases thr (fitsG l.op l.ag) l.op l.ag<;>rfl
theorem fitL_ok:∀{sg:List UInt8} {xs:List V},fitL sg xs=true→xs.length=sg.length∧∀j:Nat,j<xs.length→letO ((sg.getD j 0).toNat:Int) (tagV (xs.getD j .junk)) (numV (xs.getD j .junk)) (kidsV (xs.getD j .junk))=true
 |[],[],_=>⟨rfl,fun j hj=>by simp at hj⟩
 |[],_::_,h=>by cases h
 |_::_,[],h=>by cases h
 |c::r,v::q,h=>by
  unfold fitL at h
  rw [Bool.and_eq_true] at h
  obtain ⟨h1,h2⟩:=h
  obtain ⟨h3,h4⟩:=fitL_ok h2
  refine ⟨by simp [h3],fun j hj=>?_⟩
  cases j with
  |succ j=>exact h4 j (by simpa using hj)
  |zero=>
   show letO ((c.toNat:Int)) (tagV v) (numV v) (kidsV v)=true
   unfold letC at h1
   simp only [Bool.and_eq_true,Bool.not_eq_true',beq_eq_false_iff_ne] at h1
   obtain ⟨g1,g2,g3⟩:=h1
   have e1:((c.toNat:Int)==83)=false:=by
    rw [beq_eq_false_iff_ne]
    intro e
    exact g1 (UInt8.toNat_inj.1 (by have:c.toNat=83:=(by omega);rw [this];rfl))
   have e2:((c.toNat:Int)==80)=false:=by
    rw [beq_eq_false_iff_ne]
    intro e
    exact g2 (UInt8.toNat_inj.1 (by have:c.toNat=80:=(by omega);rw [this];rfl))
   unfold letO
   rw [e1,e2]
   exact g3
theorem fitC_ok {op:Int} {xs:List V} (h:fitC op xs=true):fitsG op xs=true:=by
 unfold fitC at h
 rw [Bool.and_eq_true,Bool.and_eq_true,decide_eq_true_eq,decide_eq_true_eq] at h
 obtain ⟨h1,h2,h3⟩:=h
 obtain ⟨hl,hh⟩:=fitL_ok h3
 unfold fitsG
 rw [if_neg (by simp;omega),if_neg (by simp;omega),if_neg (by simp [hl])]
 refine dec_iff.2 fun m hm=>?_
 have e:(0+(m:Int)*1)=m:=by omega
 rw [e] at hm ⊢
 have:=hh m (by omega)
 unfold okG getV
 have e2:((m:Int)).toNat=m:=by omega
 rw [e2]
 exact this
theorem zfs_ok:SOkS zFS:=⟨fun v hv=>(by cases hv),Nat.zero_le _,fun v hv=>(by cases hv),Nat.zero_le _⟩
theorem effC_ok (m:MD):EFOk m (effC m):=by
 intro op ag s o es g ok h
 unfold effC at h
 split at h
 ·rename_i hc
  simp only [Bool.and_eq_true,Bool.not_eq_true'] at hc
  obtain ⟨c1,c2,c3,c4,c5⟩:=hc
  have hts:=nilB_ok c3
  have hf:=fitC_ok c1
  split at h
  ·rename_i es0 he
   obtain ⟨a1,a2⟩:=edOf_ok he
   split at h
   ·rename_i hl
    have h:=Option.some.inj h
    have e:effL m op ag s=dL m op ag s:=by
     unfold effL
     exact throws_nil (nilB_ok c4)
    have e2:effOk m op ag s=(dL m op ag s).rt:=by
     unfold effOk
     rw [hf,e,c2];rfl
    have ho:=okS_ok c5
    obtain ⟨h1,h⟩:=Prod.mk.inj h
    obtain ⟨h2,h⟩:=Prod.mk.inj h
    obtain ⟨h3,h4⟩:=Prod.mk.inj h
    subst h1 h2 h3 h4
    refine ⟨by rw [hts];decide, ?_, ?_, ?_,e2, ?_, ?_⟩
    ·unfold effO;rw [e2,e]
    ·unfold effE;rw [e2,e]
     cases (dL m op ag s).rt
     ·rfl
     ·exact a1.symm
    ·unfold effG;rw [e2,e]
    ·split
     ·split
      ·exact ho
      ·exact zfs_ok
     ·exact zfs_ok
    ·split
     ·exact ⟨a2,hl⟩
     ·exact ⟨fun p hp=>(by cases hp),Nat.zero_le _⟩
   ·cases h
  ·cases h
 ·cases h
theorem b16t_ok (args:List V) (k:V→Prop) (h:b16t args k):∃r,CallP Try.prog 16 args r∧k r:=by
 unfold b16t at h
 split at h
 ·obtain ⟨hc,hm,E,n,m,hE,hf,hk⟩:=h
  exact ⟨_,c16 _ _ _ _ _ _ _ _ _ _ E n _ hE hm hc hf,hk⟩
 ·exact h.elim
theorem b16f_ok (args:List V) (k:V→Prop) (h:b16f args k):∃r,CallP Try.prog 16 args r∧k r:=by
 unfold b16f at h
 split at h
 ·obtain ⟨hc,hm,E,n,a,m,hE,hf,hk⟩:=h
  exact ⟨_,c16 _ _ _ _ _ _ _ _ _ _ E n _ hE hm hc hf,hk⟩
 ·exact h.elim
theorem c12 (n:Int):CallP Try.prog 12 [.int .i64 n] (.agg [.int .i64 1,.int .i64 n,.list false []]):=by
 refine zJ (Sp:=sp12) zD Try.func12 Try.ntmps12 (by kernel_rfl) ((n12 n _).mpr ?_)
 rfl
theorem b12_ok (args:List V) (k:V→Prop) (h:b12 args k):∃r,CallP Try.prog 12 args r∧k r:=by
 unfold b12 at h
 split at h
 ·exact ⟨_,c12 _,h⟩
 ·exact h.elim
theorem tT {x n:Int} (h0:0<n) (h1:n≤1000):0≤place x n∧place x n<n:=by
 have h2:x.tmod n<n:=Int.tmod_lt_of_pos x h0
 have h3:-n<x.tmod n:=by
  have:=Int.lt_tmod_of_pos x h0
  omega
 unfold place
 by_cases h:x.tmod n<0
 ·rw [if_pos (by simpa using h),IntKind.wrap_i64];omega
 ·rw [if_neg (by simpa using h)];omega
theorem place4 (x:Int):place x 4=0∨place x 4=1∨place x 4=2∨place x 4=3:=by
 obtain ⟨h1,h2⟩:=tT (x:=x) (n:=4) (by decide) (by decide)
 omega
theorem sp11_ok:SpOk Try.prog sp11:=zA b7_ok (zA b8_ok (zA b12_ok (zA b13_ok zD)))
theorem c11 (v:Int):CallP Try.prog 11 [.int .i64 v] (.agg [.int .i64 (kA (place v 4)).1,.int .i64 (kA (place v 4)).2,.list false []]):=by
 refine zJ sp11_ok Try.func11 Try.ntmps11 (by kernel_rfl) ((n11 v _).mpr ?_)
 rcases place4 v with h|h|h|h<;>rw [h]<;>exact ⟨by decide,by decide,by decide,by decide,rfl,_,_,_,rfl,rfl⟩
theorem b11_ok (args:List V) (k:V→Prop) (h:b11 args k):∃r,CallP Try.prog 11 args r∧k r:=by
 unfold b11 at h
 split at h
 ·exact ⟨_,c11 _,h _ rfl⟩
 ·exact h.elim
theorem sp14_ok:SpOk Try.prog sp14:=zA b8_ok zD
theorem c14 (v a:Int):CallP Try.prog 14 [.int .i64 v,.int .i64 a] (.int .i64 (kB (place v 4) a)):=by
 refine zJ sp14_ok Try.func14 Try.ntmps14 (by kernel_rfl) ((n14 v a _).mpr ?_)
 rcases place4 v with h|h|h|h<;>rw [h]<;>exact ⟨by decide,by decide,by decide,by show (_:Int)<((4:Nat):Int);decide,rfl,_,rfl,rfl⟩
theorem b14_ok (args:List V) (k:V→Prop) (h:b14 args k):∃r,CallP Try.prog 14 args r∧k r:=by
 unfold b14 at h
 split at h
 ·exact ⟨_,c14 _ _,h _ rfl⟩
 ·exact h.elim
theorem szL {l:List V} (h:(l.all fun v=>Nat.beq v.sz 3)=true):∀v,List.Mem v l→V.sz v=3:=by
 rw [List.all_eq_true] at h
 intro v hv
 exact Nat.eq_of_beq_eq_true (h v hv)
theorem t28B_ok {v:V} (h:t28B v=true):T28 v:=by
 unfold t28B at h
 split at h
 ·exact .mk _ _ [] fun u hu=>by cases hu
 ·cases h
theorem sA {l:List V} (h:l.all tG=true) (h2:l.length≤1000000):uB l:=by
 rw [List.all_eq_true] at h
 refine ⟨fun v hv=>?_,h2⟩
 have:=h v hv
 unfold tG at this
 split at this
 ·rename_i op ag
  rw [List.all_eq_true] at this
  exact ⟨op,ag,rfl,fun u hu=>t28B_ok (this u hu)⟩
 ·cases this
theorem mok_nil (am co:List V):MOk ⟨am,[],[],[],[],co⟩:=⟨fun v hv=>(by cases hv),fun v hv=>(by cases hv),fun v hv=>(by cases hv),Nat.zero_le _,Nat.zero_le _⟩
theorem fA:ckA (uY (effC mCA) CA 0 4 0 60)=true:=by kernel_rfl
theorem fA2:∃m,uY (effC mCA) CA 0 4 0 60=some (false,3,m):=by
 have h:=fA
 revert h
 generalize uY (effC mCA) CA 0 4 0 60=x
 intro h
 unfold ckA at h
 split at h
 ·rw [beq_iff_eq] at h;subst h;exact ⟨_,rfl⟩
 ·cases h
theorem fL:([0,1,2,3]:List Int).all (fun p=>([0,1,2,3]:List Int).all fun q=>ckL (bits .or .i64 (kB p 127) (kB q 127)) (uY (effC (mCL (kA p) (kA q))) (CL (kA p) (kA q)) 0 10 1 60))=true:=by kernel_rfl
theorem sp10_ok:SpOk Try.prog sp10:=zA b5_ok (zA b6_ok (zA b7_ok (zA b9_ok (zA b16f_ok zD))))
theorem c10:CallP Try.prog 10 [] (.bool true):=by
 refine zJ sp10_ok Try.func10 Try.ntmps10 (by kernel_rfl) ((n10 _).mpr ?_)
 obtain ⟨m,hm⟩:=fA2
 refine ⟨⟨szL rfl,by decide⟩,⟨szL rfl,by decide⟩,⟨szL rfl,by decide⟩,⟨szL rfl,by decide⟩,⟨szL rfl,by decide⟩,sA (l:=CA) rfl (by decide),fun p ep=>?_⟩
 subst ep
 refine fun x e=>⟨fun h=>absurd (e.symm.trans h) (by decide),fun _=>fun x e=>⟨fun h=>absurd (e.symm.trans h) (by decide),fun _ _ n en=>?_⟩⟩
 subst en
 refine fun x e=>⟨fun h=>absurd (e.symm.trans h) (by decide),fun _=>⟨by decide,by decide,0,4,2,0,rfl,fun x e=>⟨fun h=>absurd (e.symm.trans h) (by decide),fun _=>⟨by decide,by decide,0,4,2,0,rfl,fun x e=>⟨fun h=>absurd (e.symm.trans h) (by decide),fun _=>⟨by decide,by decide,0,4,2,0,rfl,sA (l:=CA) rfl (by decide),mok_nil [] CA,effC mCA,60,3,m,effC_ok mCA,hm,fun x e=>⟨fun _ y ey=>?_,fun h=>absurd (e.symm.trans h) (by decide)⟩⟩⟩⟩⟩⟩⟩
 subst ey
 rfl
theorem b10_ok (args:List V) (k:V→Prop) (h:b10 args k):∃r,CallP Try.prog 10 args r∧k r:=by
 unfold b10 at h
 split at h
 ·exact ⟨_,c10,h⟩
 ·exact h.elim
theorem ckL_ok {x:Int} {o:Option (Bool×Int×SM)} (h:ckL x o=true):∃m s t,o=some (true,0,m)∧uZ m 4=some s∧uZ m 9=some t∧(s.f 1).1=x∧(t.f 1).1=x∧(s.f 0).1=127∧(s.f 2).1=0:=by
 unfold ckL at h
 split at h
 ·rename_i a m
  rw [Bool.and_eq_true,beq_iff_eq] at h
  obtain ⟨rfl,h⟩:=h
  split at h
  ·rename_i s hs
   split at h
   ·rename_i t ht
    simp only [Bool.and_eq_true,beq_iff_eq] at h
    obtain ⟨h1,h2,h3,h4⟩:=h
    exact ⟨m,s,t,rfl,hs,ht,h1,h2,h3,h4⟩
   ·cases h
  ·cases h
 ·cases h
theorem fL4 (v w:Int):∃m s t,uY (effC (mCL (kA (place v 4)) (kA (place w 4)))) (CL (kA (place v 4)) (kA (place w 4))) 0 10 1 60=some (true,0,m)∧uZ m 4=some s∧uZ m 9=some t∧(s.f 1).1=bits .or .i64 (kB (place v 4) 127) (kB (place w 4) 127)∧(t.f 1).1=bits .or .i64 (kB (place v 4) 127) (kB (place w 4) 127)∧(s.f 0).1=127∧(s.f 2).1=0:=by
 have h:=fL
 rw [List.all_eq_true] at h
 have mem:∀x:Int,place x 4∈([0,1,2,3]:List Int):=fun x=>by
  rcases place4 x with h|h|h|h<;>rw [h]<;>decide
 have:=h _ (mem v)
 rw [List.all_eq_true] at this
 exact ckL_ok (this _ (mem w))
theorem sp4_ok:SpOk Try.prog sp4:=zA b5_ok (zA b6_ok (zA b7_ok (zA b9_ok (zA b10_ok (zA b11_ok (zA b13_ok (zA b14_ok (zA b15_ok (zA b16t_ok zD)))))))))
theorem c4 (v w:Int):CallP Try.prog 4 [.int .i64 v,.int .i64 w] (.bool true):=by
 refine zJ sp4_ok Try.func4 Try.ntmps4 (by kernel_rfl) ((n4 v w _).mpr ?_)
 obtain ⟨m,s,t,hf,h4,h9,e1,e2,e3,e4⟩:=fL4 v w
 refine ⟨⟨szL rfl,by decide⟩,⟨szL rfl,by decide⟩,⟨szL rfl,by decide⟩,fun q6 eq6=>⟨⟨szL rfl,by show (2:Nat)≤1000;decide⟩,⟨szL rfl,by decide⟩,⟨szL rfl,by decide⟩,fun q14 eq14=>⟨⟨szL rfl,by show (2:Nat)≤1000;decide⟩,⟨szL rfl,by decide⟩,⟨szL rfl,by decide⟩,⟨szL rfl,by decide⟩,⟨szL rfl,by decide⟩,sA (l:=CL q6 q14) rfl (by show (11:Nat)≤1000000;decide),fun p ep=>?_⟩⟩⟩
 subst ep
 refine fun x e=>⟨fun h=>absurd (e.symm.trans h) (by decide),fun _ _ n en=>?_⟩
 subst en
 refine fun x e=>⟨fun h=>absurd (e.symm.trans h) (by decide),fun _=>⟨by decide,by decide,0,10,2,1,rfl,sA (l:=CL q6 q14) rfl (by show (11:Nat)≤1000000;decide),mok_nil [.str [102]] (CL q6 q14),effC (mCL q6 q14),60,m,effC_ok (mCL q6 q14),by rw [eq6,eq14];exact hf, ?_⟩⟩
 rw [uX,uX,h4,h9]
 refine ⟨(fun h=>by cases h),fun _=>⟨s.f,s.fr,s.ys,s.rm,s.ts,rfl,(fun h=>by cases h),fun _=>⟨t.f,t.fr,t.ys,t.rm,t.ts,rfl,fun a ea b eb c ec=>?_⟩⟩⟩
 subst ea eb ec
 refine ⟨fun _=>⟨fun _=>⟨fun _=>⟨by decide,by decide,fun x e=>⟨fun _=>⟨by decide,by decide,fun x e=>⟨fun _=>⟨by decide,by decide,fun x e=>⟨fun _=>⟨by decide,by decide,fun x e=>⟨fun _=>rfl,fun h=>?_⟩⟩,fun h=>?_⟩⟩,fun h=>?_⟩⟩,fun h=>?_⟩⟩,(fun h=>by cases h)⟩,(fun h=>by cases h)⟩,(fun h=>by cases h)⟩
 ·rw [e4] at e;exact absurd (e.symm.trans h) (by decide)
 ·rw [e3] at e;exact absurd (e.symm.trans h) (by decide)
 ·rw [e2,beq_self_eq_true] at e;exact absurd (e.symm.trans h) (by decide)
 ·rw [e1,beq_self_eq_true] at e;exact absurd (e.symm.trans h) (by decide)
end GoL
