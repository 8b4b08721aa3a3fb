/- A part of the proof: a logic proved sound over the model; contracts; plain laws. -/
import Derived.Test.YteeaefidpkifbaaGD
import Derived.Shelf.SlIterI.Collect
set_option linter.all false
namespace GoL
open Go
abbrev S:=List (Nat×V)
abbrev Hp:=List (Nat×Blk)
def lkB {α:Type}:List (Nat×α)→Nat→Option α
 |[],_=>none
 |(k,v)::r,t=>match Nat.beq k t with
  |true=>some v
  |false=>lkB r t
theorem lkB_cons {α:Type} (k:Nat) (v:α) (r:List (Nat×α)):lkB ((k,v)::r)=setO (lkB r) k v:=by
 funext t
 simp only [lkB,setO]
 by_cases h:t=k
 ·subst h;simp
 ·have:Nat.beq k t=false:=by
   cases hb:Nat.beq k t with
   |true=>exact absurd (Nat.eq_of_beq_eq_true hb).symm h
   |false=>rfl
  rw [this,if_neg h]
theorem over_lkB (hw h:Hp):over (lkB h) hw=lkB (hw++h):=by
 induction hw with
 |nil=>rfl
 |cons x r ih=>
  obtain ⟨i,b⟩:=x
  rw [zG,ih,List.cons_append,lkB_cons]
def evV:V→V
 | .gd _ u=>u
 |v=>v
def gkV:V→Bool
 | .gd c _=>c
 |_=>true
def VEq (a b:V):Prop:=evV a=evV b∧gkV a=gkV b
theorem VEq.refl (a:V):VEq a a:=⟨rfl,rfl⟩
theorem VEq.trans {a b c:V} (h:VEq a b) (h':VEq b c):VEq a c:=⟨h.1.trans h'.1,h.2.trans h'.2⟩
theorem VEq.symm {a b:V} (h:VEq a b):VEq b a:=⟨h.1.symm,h.2.symm⟩
section
variable {w:World} {I:Nat→Prop} {ι:Nat→Option Img} {H:Nat→Option Blk}
theorem Slot.veq {a b:V} {c:Value} (h:VEq a b) (hs:Slot w I ι H a c):Slot w I ι H b c:=by
 obtain ⟨h1,h2⟩:=h
 by_cases ha:∃g u,a=.gd g u
 ·obtain ⟨g,u,rfl⟩:=ha
  by_cases hb:∃g u,b=.gd g u
  ·obtain ⟨g',u',rfl⟩:=hb
   simp only [evV,gkV] at h1 h2
   subst h1;subst h2;exact hs
  ·have e1:evV b=b:=by cases b<;>first|rfl|exact absurd ⟨_,_,rfl⟩ hb
   have e2:gkV b=true:=by cases b<;>first|rfl|exact absurd ⟨_,_,rfl⟩ hb
   rw [e1] at h1;rw [e2] at h2
   simp only [evV,gkV] at h1 h2
   subst h1;subst h2
   rw [Slot] at hs
   exact hs.1 rfl
 ·have e1:evV a=a:=by cases a<;>first|rfl|exact absurd ⟨_,_,rfl⟩ ha
  have e2:gkV a=true:=by cases a<;>first|rfl|exact absurd ⟨_,_,rfl⟩ ha
  rw [e1] at h1;rw [e2] at h2
  by_cases hb:∃g u,b=.gd g u
  ·obtain ⟨g',u',rfl⟩:=hb
   simp only [evV,gkV] at h1 h2
   subst h1;subst h2
   rw [Slot]
   exact ⟨fun _=>hs,fun e=>by cases e⟩
  ·have e3:evV b=b:=by cases b<;>first|rfl|exact absurd ⟨_,_,rfl⟩ hb
   rw [e3] at h1
   subst h1;exact hs
end
structure WeakF (n:Nat) (s:Nat→Option V) (H:Nat→Option Blk) (n':Nat) (s':Nat→Option V) (H':Nat→Option Blk):Prop where
 ss:∀t v,s' t=some v→∃v0,s t=some v0∧VEq v0 v
 hh:∀i b,H' i=some b→H i=some b
 nn:n'≤n
 lo:n'<n→1000≤n'
 si:n'<n→∀t v,s' t=some v→∀i∈v.ids,i<n'
 hi:n'<n→∀i b,H' i=some b→i<n'∧∀j∈b.t.ids,j<n'
theorem WeakF.refl {n:Nat} {s:Nat→Option V} {H:Nat→Option Blk}:WeakF n s H n s H:=
 ⟨fun t v h=>⟨v,h,VEq.refl v⟩,fun i b h=>h,Nat.le_refl n,fun h=>absurd h (Nat.lt_irrefl n),fun h=>absurd h (Nat.lt_irrefl n),fun h=>absurd h (Nat.lt_irrefl n)⟩
theorem ids_evV {v:V}:(evV v).ids=v.ids:=by cases v<;>rfl
theorem VEq.ids {a b:V} (h:VEq a b):a.ids=b.ids:=by rw [←ids_evV,h.1,ids_evV]
theorem WeakF.trans {n n1 n2:Nat} {s s1 s2:Nat→Option V} {H H1 H2:Nat→Option Blk} (h:WeakF n s H n1 s1 H1) (h':WeakF n1 s1 H1 n2 s2 H2):WeakF n s H n2 s2 H2:=by
 refine ⟨fun t v hv=>?_,fun i b hb=>h.hh i b (h'.hh i b hb),Nat.le_trans h'.nn h.nn,fun hlt=>?_,fun hlt t v hv i hi=>?_,fun hlt i b hb=>?_⟩
 ·obtain ⟨v1,a1,a2⟩:=h'.ss t v hv
  obtain ⟨v0,b1,b2⟩:=h.ss t v1 a1
  exact ⟨v0,b1,b2.trans a2⟩
 ·by_cases h2:n2<n1
  ·exact h'.lo h2
  ·have e:n2=n1:=by have:=h'.nn;omega
   have:=h.lo (by omega)
   omega
 ·by_cases h2:n2<n1
  ·exact h'.si h2 t v hv i hi
  ·have e:n2=n1:=by have:=h'.nn;omega
   obtain ⟨v1,a1,a2⟩:=h'.ss t v hv
   have:=h.si (by omega) t v1 a1 i (by rw [a2.ids];exact hi)
   omega
 ·by_cases h2:n2<n1
  ·exact h'.hi h2 i b hb
  ·have e:n2=n1:=by have:=h'.nn;omega
   have:=h.hi (by omega) i b (h'.hh i b hb)
   rw [e];exact this
section
variable {P:Program} {N:Nat} {U I0:Nat→Prop} {w0:Start} {s s':Nat→Option V} {H H':Nat→Option Blk} {a:Act} {w:World} {I:Nat→Prop} {ι:Nat→Option Img} {n n':Nat}
def cutI (n:Nat) (ι:Nat→Option Img):Nat→Option Img:=fun i=>if i<n then ι i else none
theorem cutI_some {i:Nat} {m:Img} (h:cutI n ι i=some m):i<n∧ι i=some m:=by
 unfold cutI at h
 split at h
 ·exact ⟨‹_›,h⟩
 ·cases h
theorem cutI_lt {i:Nat} (h:i<n):cutI n ι i=ι i:=if_pos h
theorem Rep.belw {v:V} {cs:List Value} (hh:∀i b,H' i=some b→H i=some b) (h:Rep w I ι H v cs):(∀i∈v.ids,i<n)→Rep w I (cutI n ι) H' v cs:=by
 induction h with
 |imm h=>intro _;exact .imm h
 |ptr h=>intro hi;exact .ptr (by rw [cutI_lt (hi _ (by simp [V.ids]))];exact h)
 |mp h=>intro hi;exact .mp (by rw [cutI_lt (hi _ (by simp [V.ids,V.idss]))];exact h)
 |own h=>intro hi;exact .own (by rw [cutI_lt (hi _ (by simp [V.ids,V.idss]))];exact h)
 |sl hc h hr=>intro hi;exact .sl hc (by rw [cutI_lt (hi _ (by simp [V.ids]))];exact h) fun E fz rows e=>hr E fz rows (hh _ _ e)
 |eptr hc h hr=>intro hi;exact .eptr hc (by rw [cutI_lt (hi _ (by simp [V.ids]))];exact h) fun E fz rows e=>hr E fz rows (hh _ _ e)
 |view hc h hr=>intro hi;exact .view hc (by rw [cutI_lt (hi _ (by simp [V.ids,V.idss]))];exact h) fun E fz rows e=>hr E fz rows (hh _ _ e)
 |agg h ih=>intro hi;exact .agg fun i v hv=>ih i v hv fun j hj=>hi j (by simp only [V.ids];exact mem_idss (List.mem_of_getElem? hv) hj)
 |fn h ih=>intro hi;exact .fn fun i v hv=>ih i v hv fun j hj=>hi j (by simp only [V.ids];exact mem_idss (List.mem_of_getElem? hv) hj)
 |junk h=>intro _;exact .junk h
theorem Slot1.belw {v:V} {cv:Value} (hh:∀i b,H' i=some b→H i=some b) (h:Slot1 w I ι H v cv) (hi:∀i∈v.ids,i<n):Slot1 w I (cutI n ι) H' v cv:=by
 cases v<;>simp only [Slot1] at h ⊢ <;>first
  |exact h.belw hh hi
  |(obtain ⟨cs,h1,h2⟩:=h;exact ⟨cs,h1,h2.belw hh hi⟩)
theorem Slot0.belw {v:V} {cv:Value} (hh:∀i b,H' i=some b→H i=some b) (h:Slot0 w I ι H v cv) (hi:∀i∈v.ids,i<n):Slot0 w I (cutI n ι) H' v cv:=by
 cases v<;>simp only [Slot0] at h ⊢ <;>first
  |exact Slot1.belw hh h hi
  |(obtain ⟨g,h1,h2⟩:=h;exact ⟨g,h1,fun i v hv=>Slot1.belw hh (h2 i v hv) fun j hj=>hi j (by simp only [V.ids];exact mem_idss (List.mem_of_getElem? hv) hj)⟩)
theorem Slot.belw (hh:∀i b,H' i=some b→H i=some b):∀{v:V} {cv:Value},Slot w I ι H v cv→(∀i∈v.ids,i<n)→Slot w I (cutI n ι) H' v cv
 | .gd g v,cv,h,hi=>by
  simp only [Slot] at h ⊢
  exact ⟨fun hgd=>Slot.belw hh (h.1 hgd) (fun i h=>hi i (by simpa [V.ids] using h)),h.2⟩
 | .int ..,cv,h,hi| .bool ..,cv,h,hi| .str ..,cv,h,hi| .list ..,cv,h,hi| .nils,cv,h,hi| .agg ..,cv,h,hi| .tup ..,cv,h,hi| .ptr ..,cv,h,hi| .eptr ..,cv,h,hi| .dptr ..,cv,h,hi| .nilp,cv,h,hi| .sl ..,cv,h,hi
 | .fn ..,cv,h,hi| .own ..,cv,h,hi| .nbox ..,cv,h,hi| .junk,cv,h,hi=>by
  simp only [Slot] at h ⊢
  exact Slot0.belw hh h hi
theorem Rel.weak (h:Rel P N U I0 w0 s H (n≤·) a w I ι) (hw:WeakF n s H n' s' H'):∃ι',Rel P N U I0 w0 s' H' (n'≤·) a w I ι':=by
 by_cases hlt:n'<n
 ·refine ⟨cutI n' ι,⟨?_,fun t v hv=>?_,h.sz,h.df,fun i hi=>?_,h.kU,h.ini,h.siz,h.os,h.tape,h.output,fun id img hlt' hi=>?_,h.kI⟩⟩
  ·have hm:=h.m
   refine ⟨fun i b hb=>?_,fun i j m k b h1 h2=>hm.inj i j m k b (cutI_some h1).2 (cutI_some h2).2,fun i m b h1=>hm.img i m b (cutI_some h1).2,fun i b m c h1 h2=>hm.live i b m c (hw.hh i b h1) (cutI_some h2).2,hm.bnd,hm.org,hm.new⟩
   obtain ⟨img,h1,h2,h3⟩:=hm.heap i b (hw.hh i b hb)
   obtain ⟨k1,k2⟩:=hw.hi hlt i b hb
   refine ⟨img,by rw [cutI_lt k1];exact h1,h2, ?_⟩
   cases harr:b.arr with
   |none=>
    rw [harr] at h3
    obtain ⟨c,cs,g1,g2,g3⟩:=h3
    exact ⟨c,cs,g1,g2,g3.belw hw.hh k2⟩
   |some E=>
    rw [harr] at h3
    exact h3
  ·obtain ⟨v0,h1,h2⟩:=hw.ss t v hv
   exact Slot.belw hw.hh (Slot.veq h2 (h.sl t v0 h1)) (hw.si hlt t v hv)
  ·unfold cutI
   rw [if_neg (by omega)]
  ·obtain ⟨img',h1,h2,h3⟩:=h.ev id img hlt' hi
   have:=hw.lo hlt
   refine ⟨img',by rw [cutI_lt (by omega)];exact h1,h2,fun E fz rows e=>h3 E fz rows (hw.hh _ _ e)⟩
 ·have e:n'=n:=by have:=hw.nn;omega
  subst e
  have hg:HGo ι ι H H':=fun i m hi=>⟨m,hi,fun _=>rfl,fun E fz rows e=>⟨E,fz,rows,hw.hh _ _ e,Nat.le_refl _,fun _=>rfl⟩⟩
  have hk:keep I w w:=keep.refl w
  refine ⟨ι,⟨?_,fun t v hv=>?_,h.sz,h.df,h.fresh,h.kU,h.ini,h.siz,h.os,h.tape,h.output,h.ev.step hg,h.kI⟩⟩
  ·have hm:=h.m
   refine ⟨fun i b hb=>(hm.heap i b (hw.hh i b hb)).mono rfl (fun _ _ _ _=>rfl) hk (fun _ h=>h) hg rfl rfl,hm.inj,hm.img,fun i b m c h1 h2=>hm.live i b m c (hw.hh i b h1) h2,hm.bnd,hm.org,hm.new⟩
  ·obtain ⟨v0,h1,h2⟩:=hw.ss t v hv
   exact Slot.mono hk (fun _ h=>h) hg (Slot.veq h2 (h.sl t v0 h1))
theorem Tr.weak {c:Code} {K:Exit→Nat→(Nat→Option V)→(Nat→Option Blk)→Prop} (h:Tr P N c n' s' H' K) (hw:WeakF n s H n' s' H'):Tr P N c n s H K:=by
 intro U I0 w0 a w I ι hr
 obtain ⟨ι',hr'⟩:=hr.weak hw
 exact h U I0 w0 a w I ι' hr'
abbrev KK:=Exit→Nat→S→Hp→Prop
def TL (P:Program) (N:Nat) (c:Code) (n:Nat) (s:S) (H:Hp) (K:KK):Prop:=
 ∀(U I0:Nat→Prop) (w0:Start) (a:Act) (w:World) (I:Nat→Prop) (ι:Nat→Option Img),Rel P N U I0 w0 (lkB s) (lkB H) (n≤·) a w I ι→
  c.wp P (fun e a' w'=>∃n' s' H' I' ι',K e n' s' H'∧Rel P N U I0 w0 (lkB s') (lkB H') (n'≤·) a' w' I' ι') a w
def lift (K:KK):Exit→Nat→(Nat→Option V)→(Nat→Option Blk)→Prop:=fun e n s H=>∃n' s' H',K e n' s' H'∧WeakF n s H n' (lkB s') (lkB H')
variable {c d:Code} {K:KK} {σ σ':S} {η η':Hp}
theorem TL_of (h:Tr P N c n (lkB σ) (lkB η) (lift K)):TL P N c n σ η K:=by
 intro U I0 w0 a w I ι hr
 refine wp_mono (h U I0 w0 a w I ι hr) fun e a' w' ⟨n',s',H',I',ι',⟨n1,s1,H1,hk,hw⟩,r⟩=>?_
 obtain ⟨ι2,r2⟩:=r.weak hw
 exact ⟨n1,s1,H1,I',ι2,hk,r2⟩
theorem TL.to (h:TL P N c n σ η K):Tr P N c n (lkB σ) (lkB η) (lift K):=by
 intro U I0 w0 a w I ι hr
 refine wp_mono (h U I0 w0 a w I ι hr) fun e a' w' ⟨n',s',H',I',ι',hk,r⟩=>⟨n',_,_,I',ι',⟨n',s',H',hk,WeakF.refl⟩,r⟩
theorem TL.weak (h:TL P N c n' σ' η' K) (hw:WeakF n (lkB σ) (lkB η) n' (lkB σ') (lkB η')):TL P N c n σ η K:=by
 intro U I0 w0 a w I ι hr
 obtain ⟨ι',hr'⟩:=hr.weak hw
 exact h U I0 w0 a w I ι' hr'
theorem TL.mono {K':KK} (h:TL P N c n σ η K) (hk:∀e n s H,K e n s H→∃n' s' H',K' e n' s' H'∧WeakF n (lkB s) (lkB H) n' (lkB s') (lkB H')):TL P N c n σ η K':=by
 intro U I0 w0 a w I ι hr
 refine wp_mono (h U I0 w0 a w I ι hr) fun e a' w' ⟨n',s',H',I',ι',k,r⟩=>?_
 obtain ⟨n1,s1,H1,k1,hw⟩:=hk _ _ _ _ k
 obtain ⟨ι2,r2⟩:=r.weak hw
 exact ⟨n1,s1,H1,I',ι2,k1,r2⟩
theorem TL_skip (h:K .normal n σ η):TL P N .skip n σ η K:=fun U I0 w0 a w I ι hr=>wp_skip ⟨n,σ,η,I,ι,h,hr⟩
theorem TL_label {l:Nat} (h:K .normal n σ η):TL P N (.label l) n σ η K:=fun U I0 w0 a w I ι hr=>wp_label ⟨n,σ,η,I,ι,h,hr⟩
theorem TL_exit {id:Nat} (h:K (.exit id) n σ η):TL P N (.exit id) n σ η K:=fun U I0 w0 a w I ι hr=>wp_exit ⟨n,σ,η,I,ι,h,hr⟩
theorem TL_ret (h:K .ret n σ η):TL P N .ret n σ η K:=fun U I0 w0 a w I ι hr=>wp_ret ⟨n,σ,η,I,ι,h,hr⟩
def seqK (L:Nat→S→Hp→Prop) (K:KK):KK
 | .normal,n,s,H=>L n s H
 |e,n,s,H=>K e n s H
theorem TL_seq (h:TL P N c n σ η (seqK (fun n s H=>TL P N d n s H K) K)):TL P N (.seq c d) n σ η K:=by
 intro U I0 w0 a w I ι hr
 refine wp_seq (wp_mono (h U I0 w0 a w I ι hr) fun e a' w' ⟨n',s',H',I',ι',k,r⟩=>?_)
 cases e<;>first|exact k U I0 w0 a' w' I' ι' r|exact ⟨n',s',H',I',ι',k,r⟩
theorem TL_cond {x:Operand} {y z:Code} {t:Bool} (hc:evO (lkB σ) x=.bool t) (hg:gok (lkB σ) x) (h1:t=true→TL P N y n σ η K) (h2:t=false→TL P N z n σ η K):TL P N (.cond x y z) n σ η K:=by
 intro U I0 w0 a w I ι hr
 have he:=hr.eval hg
 rw [hc] at he
 exact wp_cond_split (Slot.bool_inv he) (fun e=>h1 e U I0 w0 a w I ι hr) (fun e=>h2 e U I0 w0 a w I ι hr)
def blkK (id:Nat) (K:KK):KK
 | .exit i,n,s,H=>match Nat.beq i id with
  |true=>K .normal n s H
  |false=>K (.exit i) n s H
 |e,n,s,H=>K e n s H
theorem TL_block {id:Nat} (h:TL P N c n σ η (blkK id K)):TL P N (.block id c) n σ η K:=by
 intro U I0 w0 a w I ι hr
 refine wp_block (wp_mono (h U I0 w0 a w I ι hr) fun e a' w' ⟨n',s',H',I',ι',k,r⟩=>?_)
 cases e
 case exit i _hx=>
  simp only [Exit.inBlock]
  simp only [blkK] at k
  by_cases h:i=id
  ·subst h;simp only [Nat.beq_refl] at k;rw [if_pos rfl];exact ⟨n',s',H',I',ι',k,r⟩
  ·have hb:Nat.beq i id=false:=by
    cases hb:Nat.beq i id with
    |true=>exact absurd (Nat.eq_of_beq_eq_true hb) h
    |false=>rfl
   rw [hb] at k
   rw [if_neg h];exact ⟨n',s',H',I',ι',k,r⟩
 all_goals exact ⟨n',s',H',I',ι',k,r⟩
def scpK (K:KK):KK
 | .goto _,_,_,_=>False
 |e,n,s,H=>K e n s H
theorem TL_scope (h:TL P N c n σ η (scpK K)):TL P N (.scope c) n σ η K:=by
 intro U I0 w0 a w I ι hr
 refine wp_scope_straight (wp_mono (h U I0 w0 a w I ι hr) fun e a' w' ⟨n',s',H',I',ι',k,r⟩=>?_)
 cases e<;>first|exact ⟨n',s',H',I',ι',k,r⟩|exact k.elim
theorem TL_loop {γ:Type} (n0:Nat) (σg:γ→S) (ηg:γ→Hp) (μ:γ→Nat) (Pre:γ→Prop) (Post:γ→KK)
  (hstep:∀g,Pre g→TL P N c n0 (σg g) (ηg g) (seqK (fun n' s' H'=>∃g',Pre g'∧μ g'<μ g∧(∀e n s H,Post g' e n s H→Post g e n s H)∧WeakF n' (lkB s') (lkB H') n0 (lkB (σg g')) (lkB (ηg g'))) (Post g))):
  ∀g,Pre g→TL P N (.loop c) n0 (σg g) (ηg g) (Post g):=by
 intro g hg U I0 w0 a w I ι hr
 have key:∀(k:Nat) (g:γ) (a:Act) (w:World) (I:Nat→Prop) (ι:Nat→Option Img),μ g=k→Pre g→Rel P N U I0 w0 (lkB (σg g)) (lkB (ηg g)) (n0≤·) a w I ι→
   ∀(b:Frame) (kk:List Item) (cs:List Frame),∃e a' w',(∃n' s' H' I' ι',Post g e n' s' H'∧Rel P N U I0 w0 (lkB s') (lkB H') (n'≤·) a' w' I' ι')∧Arrives P (lone (b.at a (.code c::.inLoop c::kk)) cs w) b kk cs e a' w':=by
  intro k
  induction k using Nat.strongRecOn with
  |_ k ih=>
   intro g a w I ι hk hI hr b kk cs
   obtain ⟨e,a1,w1,⟨n',s',H',I',ι',hq,hr'⟩,harr⟩:=hstep g hI U I0 w0 a w I ι hr b (.inLoop c::kk) cs
   cases e with
   |normal=>
    obtain ⟨g',hI',hlt,hp,hw⟩:=hq
    obtain ⟨ι2,r2⟩:=Rel.weak hr' hw
    obtain ⟨e2,a2,w2,⟨n2,s2,H2,I2,ι3,hq2,hr2⟩,harr2⟩:=ih (μ g') (hk▸hlt) g' a1 w1 I' ι2 rfl hI' r2 b kk cs
    exact ⟨e2,a2,w2,⟨n2,s2,H2,I2,ι3,hp _ _ _ _ hq2,hr2⟩,.of_steps (Steps.trans harr (.one step_inLoop)) harr2⟩
   |exit id=>exact ⟨_,a1,w1,⟨n',s',H',I',ι',hq,hr'⟩,.pass (x:=.inLoop c) rfl (fun _ _=>.inl (by simp)) harr⟩
   |goto l=>exact ⟨_,a1,w1,⟨n',s',H',I',ι',hq,hr'⟩,.pass (x:=.inLoop c) rfl (fun _ _=>.inl (by simp)) harr⟩
   |ret=>exact ⟨_,a1,w1,⟨n',s',H',I',ι',hq,hr'⟩,.pass (x:=.inLoop c) rfl (fun _ _=>.inl (by simp)) harr⟩
   |panic ch=>exact ⟨_,a1,w1,⟨n',s',H',I',ι',hq,hr'⟩,.pass (x:=.inLoop c) rfl (fun _ _=>.inl (by simp)) harr⟩
   |outgrown=>exact ⟨_,a1,w1,⟨n',s',H',I',ι',hq,hr'⟩,.pass (x:=.inLoop c) rfl (fun _ _=>.inl (by simp)) harr⟩
 intro b kk cs
 obtain ⟨e,a',w',hq,harr⟩:=key _ g a w I ι rfl hg hr b kk cs
 exact ⟨e,a',w',hq,.of_steps (.one step_loop) harr⟩
theorem TL_frz (l:List Nat) (h:TL P N c n σ (frz (lkB η) l++η) K):TL P N c n σ η K:=by
 intro U I0 w0 a w I ι hr
 obtain ⟨I1,a0,a1,a2,a3⟩:=freeze_all hr.m l
 refine h U I0 w0 a w I1 ι ?_
 rw [←over_lkB]
 exact ⟨a2,fun t v hv=>a3.slot (hr.sl t v hv),hr.sz,hr.df,hr.fresh,hr.kU,fun b hb=>a3.sub b (hr.ini b hb),hr.siz,hr.os,hr.tape,hr.output,hr.ev.step a3.hgo,hr.kI⟩
theorem TL_own {t E:Nat} (ht:lkB σ t=some .nils) (h:TL P N c (n+1) ((t,.sl n 0)::σ) ((n,⟨some E,false,.agg []⟩)::η) K):TL P N c n σ η K:=by
 intro U I0 w0 a w I ι hr
 have hn:ι n=none:=hr.fresh n (Nat.le_refl n)
 have hι:∀i m,ι i=some m→setO ι n ⟨none,0,true⟩ i=some m:=fun i m hi=>by
  by_cases e:i=n
  ·subst e;rw [hn] at hi;cases hi
  ·rw [zV _ _ e];exact hi
 have hinv:∀i m,setO ι n ⟨none,0,true⟩ i=some m→(i=n∧m=⟨none,0,true⟩)∨ι i=some m:=fun i m hi=>by
  by_cases e:i=n
  ·subst e;simp at hi;exact .inl ⟨rfl,hi.symm⟩
  ·rw [zV _ _ e] at hi;exact .inr hi
 have hH:∀i,i≠n→lkB ((n,(⟨some E,false,.agg []⟩:Blk))::η) i=lkB η i:=fun i e=>by rw [lkB_cons,zV _ _ e]
 have hHn:lkB ((n,(⟨some E,false,.agg []⟩:Blk))::η) n=some ⟨some E,false,.agg []⟩:=by rw [lkB_cons,setO_same]
 have hg:HGo ι (setO ι n ⟨none,0,true⟩) (lkB η) (lkB ((n,⟨some E,false,.agg []⟩)::η)):=fun i m hi=>by
  refine ⟨m,hι i m hi,fun _=>rfl,fun E' fz rows e=>?_⟩
  have hne:i≠n:=fun e=>by subst e;rw [hn] at hi;cases hi
  rw [hH i hne] at e
  exact ⟨E',fz,rows,e,Nat.le_refl _,fun _=>rfl⟩
 have hk:keep I w w:=keep.refl w
 have hm:=hr.m
 refine h U I0 w0 a w I (setO ι n ⟨none,0,true⟩) ⟨⟨fun i b hb=>?_,fun i j m k b h1 h2 h3 h4=>?_,fun i m b h1 h2=>?_,fun i b m c h1 h2 h3=>?_,hm.bnd,hm.org,hm.new⟩,fun t' v hv=>?_,hr.sz,hr.df,fun i hi=>?_,hr.kU,hr.ini,hr.siz,hr.os,hr.tape,hr.output,hr.ev.step hg,hr.kI⟩
 ·by_cases e:i=n
  ·subst e
   rw [hHn] at hb
   cases hb
   exact ⟨⟨none,0,true⟩,by simp,rfl,.inl ⟨[],rfl,by simp,by simp [lenMax],rfl⟩⟩
  ·rw [hH i e] at hb
   refine (hm.heap i b hb).mono ?_ (fun _ _ _ _=>rfl) hk (fun _ h=>h) hg rfl rfl
   rw [zV _ _ e]
 ·rcases hinv i m h1 with ⟨_,rfl⟩|h1
  ·cases h3
  ·rcases hinv j k h2 with ⟨_,rfl⟩|h2
   ·cases h4
   ·exact hm.inj i j m k b h1 h2 h3 h4
 ·rcases hinv i m h1 with ⟨_,rfl⟩|h1
  ·cases h2
  ·exact hm.img i m b h1 h2
 ·rcases hinv i m h2 with ⟨_,rfl⟩|h2
  ·cases h3
  ·have hne:i≠n:=fun e=>by rw [e,hn] at h2;cases h2
   rw [hH i hne] at h1
   exact hm.live i b m c h1 h2 h3
 ·rw [lkB_cons] at hv
  by_cases e:t'=t
  ·subst e
   rw [setO_same] at hv
   cases hv
   have h0:=hr.sl t' _ ht
   have h0:Rep w I ι (lkB η) .nils [a.tmps.getD t' undef]:=h0
   have hcv:a.tmps.getD t' undef=.slice none 0 0:=by
    generalize a.tmps.getD t' undef=cv at h0
    cases h0 with
    |imm h=>cases h;rfl
   rw [hcv]
   show Rep w I _ _ (.sl n 0) [.slice none 0 0]
   refine .sl (img:=⟨none,0,true⟩) rfl (by simp) fun E' fz rows e=>?_
   rw [hHn] at e
   cases e
   exact ⟨Nat.le_refl _,fun _=>rfl⟩
  ·rw [zV _ _ e] at hv
   exact Slot.mono hk (fun _ h=>h) hg (hr.sl t' v hv)
 ·have hi:n+1≤i:=hi
  rw [zV _ _ (by omega)]
  exact hr.fresh i (by show n≤i;omega)
def inR (i:Nat):Bool:=match Nat.ble 1000 i with
 |true=>Nat.blt i 2000
 |false=>false
theorem inR_ok {i:Nat} (h:inR i=true):1000≤i∧i<2000:=by
 unfold inR at h
 split at h
 ·rename_i e
  exact ⟨Nat.le_of_ble_eq_true e,Nat.le_of_ble_eq_true h⟩
 ·cases h
def allR:List Nat→Bool
 |[]=>true
 |i::r=>match inR i with
  |true=>allR r
  |false=>false
theorem allR_ok:∀{l:List Nat},allR l=true→∀i∈l,1000≤i∧i<2000
 |[],_,i,hi=>by cases hi
 |x::r,h,i,hi=>by
  simp only [allR] at h
  split at h
  ·rename_i e
   rcases List.mem_cons.1 hi with rfl|hi
   ·exact inR_ok e
   ·exact allR_ok h i hi
  ·cases h
def dn (i:Nat):Nat:=i-1000
def shV:V→V
 | .int k n=>.int k n
 | .bool b=>.bool b
 | .str s=>.str s
 | .list c vs=>.list c vs
 | .nils=>.nils
 | .nilp=>.nilp
 | .gd g (.bool b)=>.gd g (.bool b)
 | .ptr i off p=>match inR i with
  |true=>.ptr (dn i) off p
  |false=>.junk
 | .sl i len=>match inR i with
  |true=>.sl (dn i) len
  |false=>.junk
 |_=>.junk
def shS:S→S
 |[]=>[]
 |(t,v)::r=>(t,shV v)::shS r
def shB (b:Blk):Blk:=match b.arr with
 |some E=>⟨some E,true,b.t⟩
 |none=>⟨none,true,b.t.ren dn⟩
def shH:Hp→Hp
 |[]=>[]
 |(i,b)::r=>(dn i,shB b)::shH r
def shOk:Hp→Bool
 |[]=>true
 |(i,b)::r=>match inR i with
  |true=>match (match b.arr with
    |some _=>true
    |none=>allR b.t.idsB) with
   |true=>shOk r
   |false=>false
  |false=>false
def unL (η:Hp):V→V
 | .int k n=>.int k n
 | .bool b=>.bool b
 | .gd g (.bool b)=>.gd g (.bool b)
 | .ptr j off p=>match Nat.blt j 1000 with
  |true=>match lkB η (j+1000) with
   |some ⟨none,_,_⟩=>.ptr (j+1000) off p
   |_=>.junk
  |false=>.junk
 |_=>.junk
def unLS (η:Hp):S→S
 |[]=>[]
 |(t,v)::r=>(t,unL η v)::unLS η r
def lendK (n:Nat) (η:Hp) (K:KK):KK:=fun e _ s' _=>K e n (unLS η s') η
theorem shS_lk:∀(σ:S) (t:Nat) (v':V),lkB (shS σ) t=some v'→∃v,lkB σ t=some v∧v'=shV v
 |[],t,v',h=>by cases h
 |(k,v)::r,t,v',h=>by
  simp only [shS,lkB] at h ⊢
  cases hk:Nat.beq k t with
  |true=>rw [hk] at h;cases h;exact ⟨v,rfl,rfl⟩
  |false=>rw [hk] at h;exact shS_lk r t v' h
theorem unLS_lk (η:Hp):∀(σ:S) (t:Nat) (v':V),lkB (unLS η σ) t=some v'→∃v,lkB σ t=some v∧v'=unL η v
 |[],t,v',h=>by cases h
 |(k,v)::r,t,v',h=>by
  simp only [unLS,lkB] at h ⊢
  cases hk:Nat.beq k t with
  |true=>rw [hk] at h;cases h;exact ⟨v,rfl,rfl⟩
  |false=>rw [hk] at h;exact unLS_lk η r t v' h
theorem shH_lk:∀(η:Hp),shOk η=true→∀(j:Nat),lkB (shH η) j=(lkB η (j+1000)).map shB
 |[],_,j=>rfl
 |(i,b)::r,h,j=>by
  simp only [shOk] at h
  cases hi:inR i with
  |false=>rw [hi] at h;cases h
  |true=>
   rw [hi] at h
   simp only at h
   have hr:shOk r=true:=by
    split at h
    ·exact h
    ·cases h
   have hh:=inR_ok hi
   have ih:=shH_lk r hr j
   simp only [shH,lkB]
   by_cases e:i=j+1000
   ·subst e
    have e0:dn (j+1000)=j:=by unfold dn;omega
    have e1:Nat.beq (dn (j+1000)) j=true:=by rw [e0];exact Nat.beq_refl j
    rw [e1,Nat.beq_refl]
    rfl
   ·have e1:Nat.beq (dn i) j=false:=by
     cases hb:Nat.beq (dn i) j with
     |false=>rfl
     |true=>have:=Nat.eq_of_beq_eq_true hb;unfold dn at this;omega
    have e2:Nat.beq i (j+1000)=false:=by
     cases hb:Nat.beq i (j+1000) with
     |false=>rfl
     |true=>exact absurd (Nat.eq_of_beq_eq_true hb) e
    rw [e1,e2]
    exact ih
theorem shOk_lk:∀(η:Hp),shOk η=true→∀(i:Nat) (b:Blk),lkB η i=some b→(1000≤i∧i<2000)∧(b.arr=none→∀j∈b.t.idsB,1000≤j∧j<2000)
 |[],_,i,b,h=>by cases h
 |(k,b0)::r,h,i,b,hl=>by
  simp only [shOk] at h
  cases hi:inR k with
  |false=>rw [hi] at h;cases h
  |true=>
   rw [hi] at h
   simp only at h
   simp only [lkB] at hl
   cases hk:Nat.beq k i with
   |true=>
    rw [hk] at hl
    cases hl
    have:=Nat.eq_of_beq_eq_true hk
    subst this
    refine ⟨inR_ok hi,fun ha j hj=>?_⟩
    rw [ha] at h
    simp only at h
    split at h
    ·rename_i e;exact allR_ok e j hj
    ·cases h
   |false=>
    rw [hk] at hl
    refine shOk_lk r ?_ i b hl
    split at h
    ·exact h
    ·cases h
theorem mem_keys:∀(η:Hp) (i:Nat) (b:Blk),lkB η i=some b→i∈η.map (·.1)
 |[],i,b,h=>by cases h
 |(k,b0)::r,i,b,h=>by
  simp only [lkB] at h
  cases hk:Nat.beq k i with
  |true=>simp [Nat.eq_of_beq_eq_true hk]
  |false=>rw [hk] at h;exact List.mem_cons_of_mem _ (mem_keys r i b h)
theorem TL_lend (hok:shOk η=true) (hn:1000≤n) (h:TL P N c n (shS σ) (shH η) (lendK n η K)):TL P N c n σ η K:=by
 intro U I0 w0 a w I ι hr
 obtain ⟨I1,a0,a1,a2,a3⟩:=freeze_all hr.m (η.map (·.1))
 have hfz:∀i b,lkB η i=some b→over (lkB η) (frz (lkB η) (η.map (·.1))) i=some { b with fz:=true }:=fun i b hb=>by
  obtain ⟨f,h1,h2,_⟩:=over_freeze (η.map (·.1)) hb
  rw [h2 (mem_keys η i b hb)] at h1
  exact h1
 generalize over (lkB η) (frz (lkB η) (η.map (·.1)))=H1 at a2 a3 hfz
 let ι2:Nat→Option Img:=fun j=>if j<1000 then ι (j+1000) else none
 have hι2:∀i,1000≤i→i<2000→ι2 (dn i)=ι i:=fun i h1 h2=>by
  show (if dn i<1000 then ι (dn i+1000) else none)=ι i
  unfold dn
  rw [if_pos (by omega),show i-1000+1000=i by omega]
 have hι2':∀j m,ι2 j=some m→j<1000∧ι (j+1000)=some m:=fun j m hj=>by
  have hj:(if j<1000 then ι (j+1000) else none)=some m:=hj
  split at hj
  ·exact ⟨‹_›,hj⟩
  ·cases hj
 have hlk:=shH_lk η hok
 have hren:∀l:List Nat,(∀i∈l,1000≤i∧i<2000)→RenOk dn ι ι2 H1 (lkB (shH η)) l:=fun l hl i hi=>by
  obtain ⟨h1,h2⟩:=hl i hi
  refine ⟨fun m hm=>by rw [hι2 i h1 h2];exact hm,fun E fz rows e=>?_⟩
  rw [hlk,show dn i+1000=i by unfold dn;omega] at e
  obtain ⟨b,hb,he⟩:=Option.map_eq_some_iff.1 e
  rw [hfz i b hb]
  obtain ⟨arr,fz0,tt⟩:=b
  cases arr with
  |none=>cases he
  |some E0=>cases he;rfl
 have hrel:Rel P N U I1 ⟨w,ι2,lkB (shH η)⟩ (lkB (shS σ)) (lkB (shH η)) (n≤·) a w I1 ι2:=by
  refine ⟨⟨fun j b2 hb2=>?_,fun i j m k b h1 h2 h3 h4=>?_,fun i m b h1 h2=>a2.img _ m b (hι2' _ _ h1).2 h2,fun j b2 m x hb2 h2 h3=>?_,a2.bnd,fun b hb=>.inl hb,a2.new⟩,fun t v' hv=>?_,hr.sz,hr.df,fun i hi=>?_,fun _ _=>rfl,fun _ h=>h,Nat.le_refl _,rfl,rfl,rfl,fun id img _ h=>⟨img,h,fun _=>rfl,fun E fz rows e=>⟨E,fz,rows,e,Nat.le_refl _,fun _=>rfl⟩⟩,fun _ _=>rfl⟩
  ·rw [hlk] at hb2
   obtain ⟨b,hb,rfl⟩:=Option.map_eq_some_iff.1 hb2
   obtain ⟨⟨k1,k2⟩,k3⟩:=shOk_lk η hok _ _ hb
   obtain ⟨img,g1,g2,g3⟩:=a2.heap _ _ (hfz _ _ hb)
   have hj:dn (j+1000)=j:=by unfold dn;omega
   have hι:=hι2 (j+1000) k1 k2
   rw [hj] at hι
   obtain ⟨arr,fz0,tt⟩:=b
   cases arr with
   |none=>
    refine ⟨img,by rw [hι];exact g1,g2, ?_⟩
    obtain ⟨bb,cs,q1,q2,q3⟩:=g3
    exact ⟨bb,cs,q1,q2,q3.rename (hren _ (k3 rfl))⟩
   |some E=>
    exact ⟨img,by rw [hι];exact g1,g2,g3⟩
  ·have:=a2.inj _ _ m k b (hι2' _ _ h1).2 (hι2' _ _ h2).2 h3 h4
   omega
  ·rw [hlk] at hb2
   obtain ⟨b,hb,rfl⟩:=Option.map_eq_some_iff.1 hb2
   have hl:=a2.live _ _ m x (hfz _ _ hb) (hι2' _ _ h2).2 h3
   have hf:(shB b).fz=true:=by unfold shB;split<;>rfl
   exact ⟨fun _=>hl.1 rfl,fun e=>by rw [hf] at e;cases e⟩
  ·obtain ⟨v,h1,rfl⟩:=shS_lk σ t v' hv
   have hs:=a3.slot (hr.sl t v h1)
   have hs2:∀(h:∀i∈v.idsB,1000≤i∧i<2000),Slot w I1 ι2 (lkB (shH η)) (v.ren dn) (a.tmps.getD t undef):=fun h=>Slot.rename hs (hren _ h)
   cases v
   case gd g u=>cases u<;>first|exact hs2 (fun i hi=>by simp [V.idsB] at hi)|exact trivial
   case ptr i off p=>
    simp only [shV]
    cases hi:inR i with
    |true=>
     refine hs2 fun j hj=>?_
     simp only [V.idsB,List.mem_cons,List.not_mem_nil,or_false] at hj
     subst hj
     exact inR_ok hi
    |false=>exact trivial
   case sl i len=>
    simp only [shV]
    cases hi:inR i with
    |true=>
     refine hs2 fun j hj=>?_
     simp only [V.idsB,List.mem_cons,List.not_mem_nil,or_false] at hj
     subst hj
     exact inR_ok hi
    |false=>exact trivial
   all_goals first|exact hs2 (fun i hi=>by simp [V.idsB] at hi)|exact trivial
  ·have hi:n≤i:=hi
   show (if i<1000 then ι (i+1000) else none)=none
   rw [if_neg (by omega)]
 refine wp_mono (h U I1 _ a w I1 ι2 hrel) fun e a' w' ⟨n',s',H',I',ι',hk,r⟩=>?_
 have hkI:keep I w w':=fun b hb=>r.kI b (a3.sub b hb)
 have hm:=hr.m
 refine ⟨n,_,_,I,ι,hk,⟨⟨fun i b hb=>(hm.heap i b hb).mono rfl (fun m x h1 h2=>r.kI x (a1 i b m x (mem_keys η i b hb) hb h1 h2)) hkI (fun _ h=>h) HGo.refl rfl rfl,hm.inj,fun i m b h1 h2=>⟨(hm.img i m b h1 h2).1,Nat.lt_of_lt_of_le (hm.img i m b h1 h2).2 r.siz⟩,hm.live,fun b hb=>Nat.lt_of_lt_of_le (hm.bnd b hb) r.siz,hm.org,fun b hb=>hm.new b (Nat.le_trans r.siz hb)⟩,fun t v' hv=>?_,r.sz,r.df,hr.fresh,fun b hb=>(r.kU b hb).trans (hr.kU b hb),hr.ini,Nat.le_trans hr.siz r.siz,r.os.trans hr.os,r.tape.trans hr.tape,r.output.trans hr.output,hr.ev,fun b hb=>(r.kI b (a3.sub b (hr.ini b hb))).trans (hr.kI b hb)⟩⟩
 obtain ⟨v,h1,rfl⟩:=unLS_lk η s' t v' hv
 have hs:=r.sl t v h1
 cases v
 case gd g u=>
  cases u<;>try exact trivial
  rename_i b
  simp only [unL,Slot] at hs ⊢
  refine ⟨fun e=>?_,hs.2⟩
  have:=Slot.bool_inv (hs.1 e)
  rw [this]
  exact slot_bool
 case int k x=>
  have:=Slot.int_inv hs
  rw [this]
  exact slot_int
 case bool b=>
  have:=Slot.bool_inv hs
  rw [this]
  exact slot_bool
 case ptr j off p=>
  simp only [unL]
  split
  ·rename_i hj
   have hj:j<1000:=Nat.le_of_ble_eq_true hj
   split
   ·rename_i fz tt hb
    obtain ⟨img,g1,g2,_⟩:=hm.heap _ _ hb
    have hi2:ι2 j=some img:=by
     show (if j<1000 then ι (j+1000) else none)=some img
     rw [if_pos hj];exact g1
    obtain ⟨img',e1,e2,_⟩:=r.ev j img hj hi2
    have e2:=e2 g2
    subst e2
    have hs:Rep w' I' ι' (lkB H') (.ptr j off p) [a'.tmps.getD t undef]:=hs
    generalize a'.tmps.getD t undef=cv at hs
    show Rep w' I ι (lkB η) (.ptr (j+1000) off p) [cv]
    cases hs with
    |imm h=>cases h
    |ptr h=>
     rw [h] at e1
     cases e1
     exact .ptr g1
   ·exact trivial
  ·exact trivial
 all_goals exact trivial
end
open Go
def chkP (b:Bool) (p:Prop):Prop:=match b with
 |true=>p
 |false=>False
theorem zE {b:Bool} {p:Prop}:chkP b p↔(b=true∧p):=by cases b<;>simp [chkP]
abbrev HBody:=List V→List V→(Nat→Option Blk)→Nat→(V→Hp→Prop)→Prop
structure SpT where
 c:Nat→List V→(V→Prop)→Prop
 h:Nat→Option (Nat×HBody)
def HSem (P:Program) (fid:Nat) (hvc rest:List V) (H1:Nat→Option Blk) (id:Nat) (v:V) (hw:Hp):Prop:=
 ∃(hv:List V) (Hf Hf':Nat→Option Blk) (r:V) (ρ:Nat→Nat),hvc=hv.map (V.ren ρ)∧(∀u∈hv,∀i∈u.idsB,Hf i≠none)∧Foot ρ id H1 Hf Hf' r∧CallH P fid (hv++rest) Hf r Hf'∧v=r.ren ρ∧
  (look hw=backH ρ Hf' (fun i=>(Hf' i).map (Blk.ren ρ)) (fun _=>none)∨(Hf'=Hf∧hw=[]))∧(∀i,Hf i≠none→∃x∈hvc,RId H1 x (ρ i))
def HOk (P:Program) (fid:Nat) (body:HBody):Prop:=∀hvc rest H1 id k,body hvc rest H1 id k→∃v hw,HSem P fid hvc rest H1 id v hw∧k v hw
structure SpOk (P:Program) (Sp:SpT):Prop where
 c:∀f args k,Sp.c f args k→∃r,CallP P f args r∧k r
 h:∀f n body,Sp.h f=some (n,body)→HOk P f body
def E0 (P:Program):Nat→List V→Prop→V→Prop:=fun f args p r=>p→CallP P f args r
def gokB (s:Nat→Option V):Operand→Bool
 | .tmp t=>match s t with
  |some v=>gkV v
  |none=>true
 |_=>true
theorem gokB_iff {s:Nat→Option V} {x:Operand}:gokB s x=true↔gok s x:=by
 cases x<;>simp only [gokB,gok,iff_true]
 rename_i t
 cases s t with
 |none=>simp
 |some v=>cases v<;>simp [gkV]
def goksB (s:Nat→Option V):List Operand→Bool
 |[]=>true
 |x::l=>match gokB s x with
  |true=>goksB s l
  |false=>false
theorem goksB_iff {s:Nat→Option V}:∀{l:List Operand},goksB s l=true↔goks s l
 |[]=>by simp [goksB]
 |x::l=>by
  rw [goks_cons,←gokB_iff,←goksB_iff (l:=l)]
  simp only [goksB]
  cases gokB s x<;>simp
def eqsP:List (Nat×Nat)→Prop→Prop
 |[],K=>K
 |(a,b)::r,K=>a=b∧eqsP r K
mutual
def purE (H:Nat→Option Blk):V→Option (List (Nat×Nat))
 | .sl id len=>match H id with
  |some ⟨some _,_,.agg rows⟩=>some [(len,rows.length)]
  |_=>none
 | .agg vs=>purEs H vs
 | .nils=>some []
 | .list _ _=>some []
 | .int _ _=>some []
 | .bool _=>some []
 | .str _=>some []
 | .dptr _=>some []
 | .nilp=>some []
 | .fn _ caps=>purEs H caps
 | .ptr id off p=>match off,p with
  |0,[]=>match H id with
   |some ⟨none,_,t⟩=>match flat t with
    |true=>some []
    |false=>none
   |_=>none
  |_,_=>none
 | .own _ l=>match l with
  |[]=>some []
  |[.list false _]=>some []
  |[.list _ _,.nilp]=>some []
  |[.ptr i off p,.nilp]=>match off,p with
   |0,[]=>match H i with
    |some ⟨some _,_,.own _ _⟩=>some []
    |_=>none
   |_,_=>none
  |_=>none
 |_=>none
def purEs (H:Nat→Option Blk):List V→Option (List (Nat×Nat))
 |[]=>some []
 |v::r=>match purE H v with
  |some a=>match purEs H r with
   |some b=>some (a++b)
   |none=>none
  |none=>none
end
theorem eqsP_app:∀{a b:List (Nat×Nat)} {K:Prop},eqsP (a++b) K↔eqsP a (eqsP b K)
 |[],_,_=>Iff.rfl
 |(x,y)::r,b,K=>by simp only [List.cons_append,eqsP,eqsP_app (a:=r)]
theorem eqsP_and:∀{a:List (Nat×Nat)} {K:Prop},eqsP a K↔(eqsP a True∧K)
 |[],_=>by simp [eqsP]
 |(x,y)::r,K=>by
  simp only [eqsP]
  rw [eqsP_and (a:=r) (K:=K),and_assoc]
mutual
theorem purE_ok (H:Nat→Option Blk):∀{v:V} {l:List (Nat×Nat)},purE H v=some l→eqsP l True→(pureV H v).ok
 | .sl id len,l,h,he=>by
  simp only [purE] at h
  simp only [pureV]
  split at h
  ·cases h
   rename_i e
   rw [e]
   exact he.1
  ·cases h
 | .agg vs,l,h,he=>by simp only [purE] at h;simp only [pureV];exact purEs_ok H h he
 | .int ..,l,h,he| .bool ..,l,h,he| .str ..,l,h,he| .list ..,l,h,he| .nils,l,h,he| .dptr ..,l,h,he| .nilp,l,h,he=>by simp [pureV]
 | .fn f caps,l,h,he=>by simp only [purE] at h;simp only [pureV];exact purEs_ok H h he
 | .ptr id off p,l,h,he=>by
  simp only [purE] at h
  simp only [pureV]
  split at h
  ·split at h
   ·rename_i e
    split at h
    ·rename_i e2
     rw [e]
     exact e2
    ·cases h
   ·cases h
  ·cases h
 | .own e l0,l,h,he=>by
  simp only [purE] at h
  simp only [pureV]
  split at h
  ·trivial
  ·trivial
  ·rename_i c vs
   cases c<;>trivial
  ·split at h
   ·split at h
    ·rename_i e
     simp only [e]
    ·cases h
   ·cases h
  ·cases h
 | .tup ..,l,h,he| .eptr ..,l,h,he| .nbox ..,l,h,he| .gd ..,l,h,he| .junk,l,h,he=>by simp [purE] at h
theorem purEs_ok (H:Nat→Option Blk):∀{vs:List V} {l:List (Nat×Nat)},purEs H vs=some l→eqsP l True→(pureVs H vs).1
 |[],l,h,he=>by simp [pureVs]
 |v::r,l,h,he=>by
  simp only [purEs] at h
  split at h
  ·rename_i a ha
   split at h
   ·rename_i b hb
    cases h
    rw [eqsP_app,eqsP_and] at he
    exact ⟨purE_ok H ha he.1,purEs_ok H hb he.2⟩
   ·cases h
  ·cases h
end
def noAgg:List V→Bool
 |[]=>true
 |v::r=>match v.isAgg with
  |true=>false
  |false=>noAgg r
theorem noAgg_mem:∀{l:List V},noAgg l=true→∀v∈l,v.isAgg=false
 |[],_,v,hv=>by cases hv
 |x::r,h,v,hv=>by
  simp only [noAgg] at h
  cases hx:x.isAgg with
  |true=>rw [hx] at h;cases h
  |false=>
   rw [hx] at h
   rcases List.mem_cons.1 hv with rfl|hv
   ·exact hx
   ·exact noAgg_mem h v hv
def nameV:V→(V→Prop)→Prop
 | .int k e,K=>∀x:Int,x=e→K (.int k x)
 | .bool e,K=>∀x:Bool,x=e→K (.bool x)
 | .str e,K=>∀x:List UInt8,x=e→K (.str x)
 | .list c e,K=>∀x:List V,x=e→K (.list c x)
 |v,K=>K v
theorem nameV_go {v:V} {K:V→Prop} (h:nameV v K):K v:=by
 cases v<;>first|exact h _ rfl|exact h
def pairT (P:Program) (E:Nat):Bool:=match P.underlying E with
 |some (.struct fs)=>match fs.toList with
  |[a,b]=>match P.underlying a.type with
   |some (.int .i64)=>match P.underlying b.type with
    |some (.int .i64)=>true
    |_=>false
   |_=>false
  |_=>false
 |_=>false
def arrF (n:Nat) (f:Nat→Int×Int):List V:=(List.range n).map fun i=>.agg [.int .i64 (f i).1,.int .i64 (f i).2]
def patL (f:Nat→(V→Prop)→Prop):List Nat→List V→(List V→Prop)→Prop
 |[],acc,K=>K acc.reverse
 |T::r,acc,K=>f T fun v=>patL f r (v::acc) K
def patE (P:Program):Nat→Nat→(V→Prop)→Prop
 |0,_,K=>∃v,K v
 |d+1,T,K=>match P.underlying T with
  |some (.int k)=>∃n:Int,K (.int k n)
  |some .bool=>∃b:Bool,K (.bool b)
  |some .string=>∃s:List UInt8,K (.str s)
  |some (.slice _)=>∃l:List V,K (.list false l)
  |some (.struct fs)=>patL (patE P d) (fs.toList.map (·.type)) [] fun vs=>K (.agg vs)
  |some (.array n E)=>match pairT P E with
   |true=>∃f:Nat→Int×Int,K (.agg (arrF n f))
   |false=>∃xs:List V,K (.agg xs)
  |_=>∃v,K v
theorem patL_go {f:Nat→(V→Prop)→Prop} (hf:∀T K,f T K→∃v,K v):∀(l:List Nat) (acc:List V) (K:List V→Prop),patL f l acc K→∃vs,K vs
 |[],acc,K,h=>⟨_,h⟩
 |T::r,acc,K,h=>by
  obtain ⟨v,hv⟩:=hf T _ h
  exact patL_go hf r _ K hv
theorem patE_go (P:Program):∀(d T:Nat) (K:V→Prop),patE P d T K→∃v,K v
 |0,T,K,h=>h
 |d+1,T,K,h=>by
  simp only [patE] at h
  split at h
  all_goals first
   |(obtain ⟨x,hx⟩:=h;exact ⟨_,hx⟩)
   |(obtain ⟨x,hx⟩:=patL_go (patE_go P d) _ _ _ h;exact ⟨_,hx⟩)
   |(split at h<;>(obtain ⟨x,hx⟩:=h;exact ⟨_,hx⟩))
def hasArr (P:Program):Nat→Nat→Bool
 |0,_=>true
 |d+1,T=>match P.underlying T with
  |some (.array _ E)=>match pairT P E with
   |true=>false
   |false=>true
  |some (.struct fs)=>fs.toList.any fun f=>hasArr P d f.type
  |_=>false
def szB (P:Program) (T:Nat) (u:V):Bool:=match szO P T with
 |some z=>Nat.beq z u.sz
 |none=>false
theorem szB_ok {P:Program} {T:Nat} {u:V} (h:szB P T u=true):szO P T=some u.sz:=by
 unfold szB at h
 split at h
 ·rename_i z e;rw [e,Nat.eq_of_beq_eq_true h]
 ·cases h
def bEq:Bool→Bool→Bool
 |true,b=>b
 |false,true=>false
 |false,false=>true
theorem bool_beq {a b:Bool} (h:bEq a b=true):a=b:=by cases a<;>cases b<;>first|rfl|cases h
def ldB (P:Program) (T:Nat) (u:V):Bool:=match szB P T u with
 |true=>match aggT P T with
  |some b=>bEq b u.isAgg
  |none=>false
 |false=>false
theorem ldB_ok {P:Program} {T:Nat} {u:V} (h:ldB P T u=true):LdOk P T u:=by
 unfold ldB at h
 split at h
 ·rename_i e
  split at h
  ·rename_i b e2;exact ⟨szB_ok e,by rw [e2,bool_beq h]⟩
  ·cases h
 ·cases h
def ldQ (P:Program) (T:Nat) (u:V) (K:Prop):Prop:=match hasArr P 5 T with
 |false=>chkP (ldB P T u) K
 |true=>LdOk P T u∧K
theorem ldQ_go {P:Program} {T:Nat} {u:V} {K:Prop} (h:ldQ P T u K):LdOk P T u∧K:=by
 unfold ldQ at h
 split at h
 ·rw [zE] at h;exact ⟨ldB_ok h.1,h.2⟩
 ·exact h
def szQ (P:Program) (T:Nat) (u:V) (K:Prop):Prop:=match hasArr P 5 T with
 |false=>chkP (szB P T u) K
 |true=>szO P T=some u.sz∧K
theorem szQ_go {P:Program} {T:Nat} {u:V} {K:Prop} (h:szQ P T u K):szO P T=some u.sz∧K:=by
 unfold szQ at h
 split at h
 ·rw [zE] at h;exact ⟨szB_ok h.1,h.2⟩
 ·exact h
def hwOk (g:Bool) (hw:Hp):Bool:=match g with
 |false=>true
 |true=>match hw with
  |[]=>true
  |_::_=>false
theorem hwOk_go {g:Bool} {hw:Hp} (h:hwOk g hw=true):g=true→hw=[]:=by
 intro e;subst e
 cases hw with
 |nil=>rfl
 |cons a l=>cases h
def OutGo (ou:Out) (g lnf:Bool) (k:V→Hp→Prop):Prop:=ou.ok∧(g=true→ou.hw=[])∧((lnf=true→ou.ln)→k ou.v ou.hw)
def wOut (g lnf:Bool) (ou:Out) (k:V→Hp→Prop):Prop:=
 ou.ok∧chkP (hwOk g ou.hw) (match lnf with
  |true=>ou.ln→nameV ou.v fun v=>k v ou.hw
  |false=>nameV ou.v fun v=>k v ou.hw)
theorem wOut_go {g lnf:Bool} {ou:Out} {k:V→Hp→Prop} (h:wOut g lnf ou k):OutGo ou g lnf k:=by
 obtain ⟨h1,h2⟩:=h
 rw [zE] at h2
 refine ⟨h1,hwOk_go h2.1,fun hl=>?_⟩
 cases lnf with
 |true=>exact nameV_go (h2.2 (hl rfl))
 |false=>exact nameV_go h2.2
theorem out_pure {v:V} {g lnf:Bool} {k:V→Hp→Prop} {p:Prop} (hp:p) (h:k v []):OutGo { ok:=p,v:=v } g lnf k:=⟨hp,fun _=>rfl,fun _=>(h)⟩
def noOb:BinOp→Bool
 | .quo=>false
 | .rem=>false
 | .shl=>false
 | .shr=>false
 |_=>true
def isEq:BinOp→Bool
 | .eql=>true
 | .neq=>true
 |_=>false
def wBin (P:Program) (g lnf:Bool) (op:BinOp) (T:Nat) (x y:V) (k:V→Hp→Prop):Prop:=match x with
 | .int ka a=>match y with
  | .int kb b=>match noOb op with
   |true=>chkP (decide (ka=kb)) (nameV (intBin op ka a b).v fun v=>k v [])
   |false=>wOut g lnf (binV P op T (.int ka a) (.int kb b)) k
  |_=>False
 | .str a=>match y with
  | .str b=>match isEq op with
   |true=>nameV (binV P op T (.str a) (.str b)).v fun v=>k v []
   |false=>wOut g lnf (binV P op T (.str a) (.str b)) k
  |_=>False
 | .bool a=>match y with
  | .bool b=>match isEq op with
   |true=>chkP (boolT P T) (nameV (binV P op T (.bool a) (.bool b)).v fun v=>k v [])
   |false=>False
  |_=>False
 |x=>wOut g lnf (binV P op T x y) k
theorem wBin_go {P:Program} {g lnf:Bool} {op:BinOp} {T:Nat} {x y:V} {k:V→Hp→Prop} (h:wBin P g lnf op T x y k):OutGo (binV P op T x y) g lnf k:=by
 cases x
 case int ka a=>
  cases y
  case int kb b=>
   simp only [wBin] at h
   split at h
   ·rename_i ho
    rw [zE] at h
    obtain ⟨h1,h2⟩:=h
    have h1:ka=kb:=by simpa using h1
    have h3:=nameV_go h2
    cases op<;>first|(cases ho;done)|exact ⟨⟨h1,trivial⟩,fun _=>rfl,fun _=>(h3)⟩
   ·exact wOut_go h
  all_goals exact h.elim
 case str a=>
  cases y
  case str b=>
   simp only [wBin] at h
   split at h
   ·rename_i ho
    have h3:=nameV_go h
    cases op<;>first|(cases ho;done)|exact ⟨trivial,fun _=>rfl,fun _=>(h3)⟩
   ·exact wOut_go h
  all_goals exact h.elim
 case bool a=>
  cases y
  case bool b=>
   simp only [wBin] at h
   split at h
   ·rename_i ho
    rw [zE] at h
    have h3:=nameV_go h.2
    cases op<;>first|(cases ho;done)|exact ⟨h.1,fun _=>rfl,fun _=>(h3)⟩
   ·exact h.elim
  all_goals exact h.elim
 all_goals exact wOut_go h
def unOk:UnOp→V→Bool
 | .neg,.int _ _=>true
 | .xor,.int _ _=>true
 | .not,.bool _=>true
 |_,_=>false
def wUn (op:UnOp) (x:V) (k:V→Hp→Prop):Prop:=chkP (unOk op x) (nameV (unV op x).v fun v=>k v [])
theorem wUn_go {g lnf:Bool} {op:UnOp} {x:V} {k:V→Hp→Prop} (h:wUn op x k):OutGo (unV op x) g lnf k:=by
 unfold wUn at h
 rw [zE] at h
 have h3:=nameV_go h.2
 have h4:=h.1
 cases op<;>cases x<;>first|(cases h4;done)|exact ⟨trivial,fun _=>rfl,fun _=>(h3)⟩
def isSomeB {α:Type}:Option α→Bool
 |some _=>true
 |none=>false
theorem isSomeB_ok {α:Type} {x:Option α} (h:isSomeB x=true):x.isSome=true:=by cases x<;>first|rfl|cases h
def wLn (lnf:Bool) (n:Nat) (k:V→Hp→Prop):Prop:=match lnf with
 |true=>n≤lenMax→∀x:Int,x=(n:Int)→k (.int .i64 x) []
 |false=>∀x:Int,x=(n:Int)→k (.int .i64 x) []
theorem wLn_go {lnf:Bool} {n:Nat} {k:V→Hp→Prop} (h:wLn lnf n k) (hl:lnf=true→n≤lenMax):k (.int .i64 n) []:=by
 cases lnf
 ·exact h _ rfl
 ·exact h (hl rfl) _ rfl
def wLen (P:Program) (H:Nat→Option Blk) (lnf:Bool) (T:Nat) (x:V) (k:V→Hp→Prop):Prop:=match x with
 | .list _ vs=>chkP (isSomeB (elemT P T)) (wLn lnf vs.length k)
 | .nils=>chkP (isSomeB (elemT P T)) (k (.int .i64 0) [])
 | .str s=>chkP (strT P T) (wLn lnf s.length k)
 | .sl id len=>match H id with
  |some ⟨some _,_,.agg rows⟩=>chkP (isSomeB (elemT P T)) (len=rows.length∧wLn lnf rows.length k)
  |_=>False
 | .agg _=>match arrT P T with
  |some (n,_)=>k (.int .i64 n) []
  |none=>False
 | .own n l=>match l with
  |[.ptr _ _ _]=>chkP (isSomeB (elemT P T)) (∀x:Int,x=(n:Int)→k (.int .i64 x) [])
  |l=>match mapT P T with
   |some _=>match mapEs H (.own n l) with
    |some es=>wLn lnf es.length k
    |none=>False
   |none=>False
 |_=>False
theorem wLen_go {P:Program} {H:Nat→Option Blk} {g lnf:Bool} {T:Nat} {x:V} {k:V→Hp→Prop} (h:wLen P H lnf T x k):OutGo (lenV H P T x) g lnf k:=by
 cases x
 case list c vs=>
  simp only [wLen,zE] at h
  exact ⟨⟨isSomeB_ok h.1,trivial⟩,fun _=>rfl,fun hl=>(wLn_go h.2 hl)⟩
 case nils=>
  simp only [wLen,zE] at h
  exact ⟨⟨isSomeB_ok h.1,trivial⟩,fun _=>rfl,fun hl=>(h.2)⟩
 case str s=>
  simp only [wLen,zE] at h
  exact ⟨h.1,fun _=>rfl,fun hl=>(wLn_go h.2 hl)⟩
 case sl id len=>
  simp only [wLen] at h
  split at h
  ·rename_i e
   rw [zE] at h
   simp only [lenV,seqOf,e]
   exact ⟨⟨isSomeB_ok h.1,h.2.1⟩,fun _=>rfl,fun hl=>(wLn_go h.2.2 hl)⟩
  ·exact h.elim
 case agg vs=>
  simp only [wLen] at h
  split at h
  ·rename_i e
   simp only [lenV,e]
   exact ⟨trivial,fun _=>rfl,fun hl=>(h)⟩
  ·exact h.elim
 case own n l=>
  simp only [wLen] at h
  split at h
  ·rw [zE] at h
   exact ⟨isSomeB_ok h.1,fun _=>rfl,fun hl=>h.2 _ rfl⟩
  ·rename_i l' hne
   have e0:lenV H P T (.own n l)=match mapT P T with
     |some _=>match mapEs H (.own n l) with
      |some es=>{ ln:=es.length≤lenMax,v:=.int .i64 es.length }
      |none=>.no
     |none=>.no:=by
    simp only [lenV]
    rfl
   rw [e0]
   split at h
   ·rename_i e1
    split at h
    ·rename_i e2
     exact ⟨trivial,fun _=>rfl,fun hl=>wLn_go h hl⟩
    ·exact h.elim
   ·exact h.elim
 all_goals exact h.elim
def wLookup (P:Program) (H:Nat→Option Blk) (T:Nat) (x k:V) (ok:Bool) (K:V→Hp→Prop):Prop:=match mapT P T with
 |some E=>match mapEs H x with
  |some es=>match k with
   | .int q kk=>match q with
    | .i64=>chkP (zeroOk P E (zeroT P E)) ((mget es kk=none→K (okV ok (zeroT P E) false) [])∧((mget es kk).isSome=true→patE P 6 E fun u=>mget es kk=some u∧K (okV ok u true) []))
    |_=>False
   |_=>False
  |none=>False
 |none=>False
theorem wLookup_go {P:Program} {H:Nat→Option Blk} {g lnf:Bool} {T:Nat} {x y:V} {ok:Bool} {k:V→Hp→Prop} (h:wLookup P H T x y ok k):OutGo (lookupV P H T x y ok) g lnf k:=by
 unfold wLookup at h
 split at h
 ·rename_i E e1
  split at h
  ·rename_i es e2
   split at h
   ·rename_i q kk
    split at h
    ·rw [zE] at h
     obtain ⟨h0,h1,h2⟩:=h
     simp only [lookupV,e1,e2]
     refine ⟨h0,fun _=>rfl,fun _=>?_⟩
     cases hm:mget es kk with
     |none=>exact h1 hm
     |some v=>
      obtain ⟨u,hu,hk⟩:=patE_go _ _ _ _ (h2 (by rw [hm];rfl))
      rw [hm] at hu;cases hu
      exact hk
    ·exact h.elim
   ·exact h.elim
  ·exact h.elim
 ·exact h.elim
def notInB (i:Nat):List Nat→Bool
 |[]=>true
 |j::r=>match Nat.beq i j with
  |true=>false
  |false=>notInB i r
theorem notInB_ok {i:Nat}:∀{l:List Nat},notInB i l=true→i∉l
 |[],_=>by simp
 |j::r,h=>by
  simp only [notInB] at h
  split at h
  ·cases h
  ·rename_i e
   intro hm
   rcases List.mem_cons.1 hm with rfl|hm
   ·rw [Nat.beq_refl] at e;cases e
   ·exact notInB_ok h hm
def wUpdMap (P:Program) (H:Nat→Option Blk) (T:Nat) (y x m:V) (K:V→Hp→Prop):Prop:=match m with
 | .own _ l=>match l with
  |[.ptr i off p,.nilp]=>match off,p with
   |0,[]=>match mapT P T with
    |some _=>match H i with
     |some ⟨some T3,fz,.own T4 es⟩=>match fz with
      |false=>match y with
       | .int q k=>match q with
        | .i64=>match purE H x with
         |some eqs=>eqsP eqs (chkP x.boxy (chkP (notInB i (pureV H x).fz) (es.length<lenMax∧-9223372036854775808≤k∧k<9223372036854775808∧K .junk ((i,⟨some T3,false,.own T4 (mput es k (pureV H x).v)⟩)::frz H (pureV H x).fz))))
         |none=>False
        |_=>False
       |_=>False
      |true=>False
     |_=>False
    |none=>False
   |_,_=>False
  |_=>False
 |_=>False
theorem wUpdMap_go {P:Program} {H:Nat→Option Blk} {lnf:Bool} {T:Nat} {x y m:V} {k:V→Hp→Prop} (h:wUpdMap P H T y x m k):OutGo (updMap P H T y x m) false lnf k:=by
 unfold wUpdMap at h
 split at h
 ·split at h
  ·split at h
   ·split at h
    ·rename_i E e1
     split at h
     ·rename_i e2
      split at h
      ·split at h
       ·rename_i q kk
        split at h
        ·split at h
         ·rename_i eqs e3
          rw [eqsP_and] at h
          simp only [zE] at h
          obtain ⟨h0,h1,h2,h3,h4,h5,h6⟩:=h
          simp only [updMap,e1,e2]
          exact ⟨⟨purE_ok H e3 h0,h1,h3,h4,h5,notInB_ok h2⟩,(fun e=>by cases e),fun _=>h6⟩
         ·exact h.elim
        ·exact h.elim
       ·exact h.elim
      ·exact h.elim
     ·exact h.elim
    ·exact h.elim
   ·exact h.elim
  ·exact h.elim
 ·exact h.elim
def subQ (t:V) (p:List Nat):Option V:=t.sub p
def offQ (t:V) (p:List Nat):Nat:=t.off p
def updQ (x t:V) (p:List Nat):V:=V.upd x t p
def wLoad (P:Program) (H:Nat→Option Blk) (hint:Option Nat) (T:Nat) (a:V) (k:V→Hp→Prop):Prop:=match a with
 | .ptr id off p=>match H id with
  |some ⟨none,_,t⟩=>match hint with
   |none=>match t.sub p with
    |some u=>chkP (Nat.beq (t.off p) off) (chkP (ldB P T u) (k u []))
    |none=>False
   |some _=>patE P 6 T fun u=>subQ t p=some u∧offQ t p=off∧ldQ P T u (k u [])
  |_=>False
 | .eptr id len off p=>match H id with
  |some ⟨some _,_,.agg rows⟩=>patE P 6 T fun u=>subQ (V.agg rows) p=some u∧len=rows.length∧offQ (V.agg rows) p=off∧ldQ P T u (k u [])
  |_=>False
 | .dptr u=>match hint with
  |none=>chkP (ldB P T u) (k u [])
  |some _=>patE P 6 T fun v=>u=v∧ldQ P T v (k v [])
 |_=>False
theorem wLoad_go {P:Program} {H:Nat→Option Blk} {hint:Option Nat} {g lnf:Bool} {T:Nat} {a:V} {k:V→Hp→Prop} (h:wLoad P H hint T a k):OutGo (loadV P H T a) g lnf k:=by
 cases a
 case ptr id off p=>
  simp only [wLoad] at h
  split at h
  ·rename_i fz t e
   simp only [loadV,e]
   cases hint with
   |none=>
    simp only at h
    split at h
    ·rename_i u hu
     rw [zE,zE] at h
     rw [hu]
     exact out_pure ⟨Nat.eq_of_beq_eq_true h.1,ldB_ok h.2.1⟩ h.2.2
    ·exact h.elim
   |some _=>
    obtain ⟨u,h1,h2,h3⟩:=patE_go _ _ _ _ h
    have h1:V.sub t p=some u:=h1
    rw [h1]
    have h3:=ldQ_go h3
    exact out_pure ⟨h2,h3.1⟩ h3.2
  ·exact h.elim
 case eptr id len off p=>
  simp only [wLoad] at h
  split at h
  ·rename_i E fz rows e
   obtain ⟨u,h1,h0,h2,h3⟩:=patE_go _ _ _ _ h
   have h1:(V.agg rows).sub p=some u:=h1
   simp only [loadV,e,h1]
   have h3:=ldQ_go h3
   exact out_pure ⟨h0,h2,h3.1⟩ h3.2
  ·exact h.elim
 case dptr u=>
  simp only [wLoad] at h
  cases hint with
  |none=>
   simp only [zE] at h
   exact out_pure (ldB_ok h.1) h.2
  |some _=>
   obtain ⟨v,rfl,h3⟩:=patE_go _ _ _ _ h
   have h3:=ldQ_go h3
   exact out_pure h3.1 h3.2
 all_goals exact h.elim
def lastP:List Nat→Option (List Nat×Nat)
 |[]=>none
 |i::r=>match r with
  |[]=>some ([],i)
  |_::_=>match lastP r with
   |some (q,j)=>some (i::q,j)
   |none=>none
theorem lastP_ok:∀{p q:List Nat} {j:Nat},lastP p=some (q,j)→p=q++[j]
 |[],q,j,h=>by cases h
 |[i],q,j,h=>by cases h;rfl
 |i::k::r,q,j,h=>by
  simp only [lastP] at h
  cases hr:lastP (k::r) with
  |none=>simp only [lastP] at hr;rw [hr] at h;cases h
  |some y=>
   obtain ⟨q',j'⟩:=y
   have e:=lastP_ok hr
   simp only [lastP] at hr
   rw [hr] at h
   cases h
   rw [e];rfl
theorem sub_app {r:List Nat}:∀{q:List Nat} {t a:V},V.sub t q=some a→V.sub t (q++r)=V.sub a r
 |[],t,a,h=>by simp [V.sub] at h;rw [h];rfl
 |k::q,t,a,h=>by
  cases t<;>simp only [V.sub] at h<;>try (cases h;done)
  rename_i vs
  cases hk:vs[k]? with
  |none=>rw [hk] at h;cases h
  |some u=>rw [hk] at h;simp only [List.cons_append,V.sub,hk];exact sub_app h
theorem off_app {r:List Nat}:∀{q:List Nat} {t a:V},V.sub t q=some a→V.off t (q++r)=V.off t q+V.off a r
 |[],t,a,h=>by simp [V.sub] at h;rw [h];simp [V.off]
 |k::q,t,a,h=>by
  cases t<;>simp only [V.sub] at h<;>try (cases h;done)
  rename_i vs
  cases hk:vs[k]? with
  |none=>rw [hk] at h;cases h
  |some u=>rw [hk] at h;simp only [List.cons_append,V.off,hk];rw [off_app h];omega
theorem upd_app {x:V} {r:List Nat}:∀{q:List Nat} {t a:V},V.sub t q=some a→V.upd x t (q++r)=V.upd (V.upd x a r) t q
 |[],t,a,h=>by simp [V.sub] at h;rw [h];simp [V.upd]
 |k::q,t,a,h=>by
  cases t<;>simp only [V.sub] at h<;>try (cases h;done)
  rename_i vs
  cases hk:vs[k]? with
  |none=>rw [hk] at h;cases h
  |some u=>rw [hk] at h;simp only [List.cons_append,V.upd,hk];rw [upd_app h]
def wStArr (P:Program) (id off:Nat) (p:List Nat) (t:V) (B T:Nat) (x:V) (k:V→Hp→Prop):Prop:=match lastP p with
 |some (q,j)=>match t.sub q with
  |some (.agg vs)=>offQ (.agg vs) [j]+t.off q=off∧(∃u,subQ (.agg vs) [j]=some u∧x.sz=u.sz)∧chkP x.boxy (szQ P T x (patE P 6 B fun a=>a=updQ x (.agg vs) [j]∧k .junk [(id,⟨none,false,V.upd a t q⟩)]))
  |_=>False
 |none=>False
theorem wStArr_go {P:Program} {id off:Nat} {p:List Nat} {t:V} {B T:Nat} {x:V} {k:V→Hp→Prop} (h:wStArr P id off p t B T x k):(∃u,t.sub p=some u∧x.sz=u.sz)∧t.off p=off∧x.boxy=true∧szO P T=some x.sz∧k .junk [(id,⟨none,false,V.upd x t p⟩)]:=by
 unfold wStArr at h
 split at h
 ·rename_i q j e
  have e:=lastP_ok e
  split at h
  ·rename_i vs ht
   obtain ⟨h1,⟨u,h2,h3⟩,h4⟩:=h
   rw [zE] at h4
   obtain ⟨h5,h6⟩:=h4
   obtain ⟨h7,h8⟩:=szQ_go h6
   obtain ⟨a,h9,h10⟩:=patE_go _ _ _ _ h8
   simp only [offQ,subQ,updQ] at h1 h2 h9
   rw [e]
   refine ⟨⟨u,by rw [sub_app ht];exact h2,h3⟩,by rw [off_app ht];omega,h5,h7, ?_⟩
   rw [upd_app ht,←h9]
   exact h10
  ·exact h.elim
 ·exact h.elim
def wStore (P:Program) (H:Nat→Option Blk) (hint:Option Nat) (T:Nat) (x a:V) (k:V→Hp→Prop):Prop:=match a with
 | .ptr id off p=>match H id with
  |some ⟨none,false,t⟩=>match hint with
   |none=>match t.sub p with
    |some u=>chkP (Nat.beq (t.off p) off) (chkP x.boxy (chkP (Nat.beq x.sz u.sz) (chkP (szB P T x) (k .junk [(id,⟨none,false,V.upd x t p⟩)]))))
    |none=>False
   |some B=>match arrT P B with
    |none=>patE P 6 B fun t'=>t'=V.upd x t p∧(∃u,t.sub p=some u∧x.sz=u.sz)∧t.off p=off∧chkP x.boxy (szQ P T x (k .junk [(id,⟨none,false,t'⟩)]))
    |some _=>wStArr P id off p t B T x k
  |_=>False
 | .eptr id len off p=>match H id with
  |some ⟨some E,false,.agg rows⟩=>match purE H x with
   |some eqs=>match hint with
    |none=>eqsP eqs (len=rows.length∧p≠[]∧(V.agg rows).off p=off∧(∃u,(V.agg rows).sub p=some u∧(pureV H x).v.sz=u.sz∧x.sz=u.sz)∧szQ P T x (id∉(pureV H x).fz∧
     ∃rows',V.agg rows'=V.upd (pureV H x).v (.agg rows) p∧k .junk ((id,⟨some E,false,.agg rows'⟩)::frz H (pureV H x).fz)))
    |some _=>match (pureV H x).fz with
     |[]=>eqsP eqs (len=rows.length∧p≠[]∧offQ (V.agg rows) p=off∧(∃u,subQ (V.agg rows) p=some u∧(pureV H x).v.sz=u.sz∧x.sz=u.sz)∧szQ P T x (
      ∃rows',V.agg rows'=updQ (pureV H x).v (.agg rows) p∧k .junk [(id,⟨some E,false,.agg rows'⟩)]))
     |_::_=>False
   |none=>False
  |_=>False
 |_=>False
theorem wStore_go {P:Program} {H:Nat→Option Blk} {hint:Option Nat} {lnf:Bool} {T:Nat} {x a:V} {k:V→Hp→Prop} (h:wStore P H hint T x a k):OutGo (storeV P H T x a) false lnf k:=by
 cases a
 case ptr id off p=>
  simp only [wStore] at h
  split at h
  ·rename_i t e
   simp only [storeV,e]
   cases hint with
   |none=>
    simp only at h
    split at h
    ·rename_i u hu
     simp only [zE] at h
     rw [hu]
     exact ⟨⟨Nat.eq_of_beq_eq_true h.1,h.2.1,Nat.eq_of_beq_eq_true h.2.2.1,szB_ok h.2.2.2.1⟩,(fun e=>by cases e),fun _=>(h.2.2.2.2)⟩
    ·exact h.elim
   |some B=>
    simp only at h
    split at h
    ·obtain ⟨t',rfl,⟨u,h1,h2⟩,h3,h4⟩:=patE_go _ _ _ _ h
     rw [zE] at h4
     have h5:=szQ_go h4.2
     rw [h1]
     exact ⟨⟨h3,h4.1,h2,h5.1⟩,(fun e=>by cases e),fun _=>(h5.2)⟩
    ·obtain ⟨⟨u,h1,h2⟩,h3,h4,h5,h6⟩:=wStArr_go h
     rw [h1]
     exact ⟨⟨h3,h4,h2,h5⟩,(fun e=>by cases e),fun _=>h6⟩
  ·exact h.elim
 case eptr id len off p=>
  simp only [wStore] at h
  split at h
  ·rename_i E rows e
   split at h
   ·rename_i eqs he
    cases hint with
    |none=>
     simp only at h
     rw [eqsP_and] at h
     obtain ⟨h0,h1,h2,h3,⟨u,h4,h5,h6⟩,h7⟩:=h
     obtain ⟨h8,h9,rows',h10,h11⟩:=szQ_go h7
     simp only [storeV,e,h4]
     refine ⟨⟨h1,h2,h3,purE_ok H he h0,h5,h6,h8,h9⟩,(fun e=>by cases e),fun _=>(?_)⟩
     rw [←h10]
     exact h11
    |some hi=>
     simp only at h
     split at h
     ·rename_i hfz
      rw [eqsP_and] at h
      obtain ⟨h0,h1,h2,h3,⟨u,h4,h5,h6⟩,h7⟩:=h
      simp only [offQ,subQ,updQ] at h3 h4 h7
      obtain ⟨h8,rows',h10,h11⟩:=szQ_go h7
      simp only [storeV,e,h4]
      refine ⟨⟨h1,h2,h3,purE_ok H he h0,h5,h6,h8,by rw [hfz];simp⟩,(fun e=>by cases e),fun _=>(?_)⟩
      rw [←h10,hfz]
      exact h11
     ·exact h.elim
   ·exact h.elim
  ·exact h.elim
 all_goals exact h.elim
def allSz (z:Nat):List V→Bool
 |[]=>true
 |v::r=>match Nat.beq v.sz z with
  |true=>allSz z r
  |false=>false
theorem allSz_ok {z:Nat}:∀{l:List V},allSz z l=true→∀v∈l,v.sz=z
 |[],_,v,hv=>by cases hv
 |x::r,h,v,hv=>by
  simp only [allSz] at h
  split at h
  ·rename_i e
   rcases List.mem_cons.1 hv with rfl|hv
   ·exact Nat.eq_of_beq_eq_true e
   ·exact allSz_ok h v hv
  ·cases h
def wSlHi (n:Nat) (xs:List V) (hi:Option V) (k:V→Prop):Prop:=match hi with
 |none=>∀ys:List V,ys=xs→k (.list false ys)
 |some (.int _ m)=>0≤m∧m≤n∧∀ys:List V,ys=xs.take m.toNat→k (.list false ys)
 |_=>False
def wSlArr (P:Program) (H:Nat→Option Blk) (g:Bool) (T:Nat) (hi:Option V) (id off:Nat) (p:List Nat) (k:V→Hp→Prop):Prop:=match arrT P T with
 |some (n,E)=>match H id with
  |some ⟨none,_,t⟩=>match t.sub p with
   |some (.agg xs)=>match szO P E with
    |some z=>chkP (Nat.beq n xs.length) (chkP (Nat.ble n lenMax) (chkP (Nat.beq (t.off p) off) (chkP (V.intss xs) (chkP (Nat.beq z (P.cellsOf E)) (chkP (allSz (P.cellsOf E) xs) (chkP (hwOk g (frz H [id])) (wSlHi n xs hi fun v=>k v (frz H [id]))))))))
    |none=>False
   |_=>False
  |_=>False
 |none=>False
def wSlView (P:Program) (T:Nat) (hi:Option V) (id off:Nat) (p:List Nat) (k:V→Hp→Prop):Prop:=match arrT P T with
 |some (n,E)=>match szO P E with
  |some z=>chkP (Nat.ble n lenMax) (chkP (Nat.beq z (P.cellsOf E)) (match hi with
   |some (.int _ m)=>0≤m∧m≤n∧k (.own m.toNat [.ptr id off p]) []
   |_=>False))
  |none=>False
 |none=>False
def wSlice (P:Program) (H:Nat→Option Blk) (g lnf:Bool) (T:Nat) (lo hi mx:Option V) (x:V) (k:V→Hp→Prop):Prop:=match x with
 | .ptr id off p=>match lo with
  |some _=>False
  |none=>match mx with
   |some _=>False
   |none=>match Nat.ble 1000 id with
    |true=>wSlArr P H g T hi id off p k
    |false=>wSlView P T hi id off p k
 |x=>wOut g lnf (sliceV P H T lo hi mx x) k
theorem wSlHi_go {n:Nat} {xs:List V} {hi:Option V} {k:V→Prop} (hn:n=xs.length) (h:wSlHi n xs hi k):isIntO hi∧0≤hiV n hi∧hiV n hi≤n∧k (.list false (xs.take (hiV n hi).toNat)):=by
 unfold wSlHi at h
 split at h
 ·refine ⟨trivial,by simp [hiV],by simp [hiV], ?_⟩
  have:=h xs rfl
  simpa [hiV,hn] using this
 ·exact ⟨trivial,h.1,h.2.1,h.2.2 _ rfl⟩
 ·exact h.elim
theorem wSlice_go {P:Program} {H:Nat→Option Blk} {g lnf:Bool} {T:Nat} {lo hi mx:Option V} {x:V} {k:V→Hp→Prop} (h:wSlice P H g lnf T lo hi mx x k):OutGo (sliceV P H T lo hi mx x) g lnf k:=by
 cases x
 case ptr id off p=>
  simp only [wSlice] at h
  cases lo with
  |some _=>exact h.elim
  |none=>
   cases mx with
   |some _=>exact h.elim
   |none=>
    simp only at h
    cases hid:Nat.ble 1000 id with
    |false=>
     rw [hid] at h
     simp only [wSlView] at h
     simp only [sliceV,hid,sliceView]
     split at h
     ·rename_i n E e
      split at h
      ·rename_i z e4
       simp only [zE] at h
       obtain ⟨h1,h2,h3⟩:=h
       split at h3
       ·rename_i m
        simp only [e]
        exact ⟨⟨trivial,trivial,trivial,h3.1,h3.2.1,Nat.le_of_ble_eq_true h1,by rw [e4,Nat.eq_of_beq_eq_true h2]⟩,fun _=>rfl,fun _=>h3.2.2⟩
       ·exact h3.elim
      ·exact h.elim
     ·exact h.elim
    |true=>
    rw [hid] at h
    simp only [wSlArr] at h
    simp only [sliceV,hid,sliceArr]
    split at h
    ·rename_i n E e
     split at h
     ·rename_i fz t e2
      split at h
      ·rename_i xs e3
       split at h
       ·rename_i z e4
        simp only [zE] at h
        obtain ⟨h1,h2,h3,h4,h5,h6,h7,h8⟩:=h
        have h1:=Nat.eq_of_beq_eq_true h1
        obtain ⟨g1,g2,g3,g4⟩:=wSlHi_go h1 h8
        simp only [e,e2,e3]
        exact ⟨⟨trivial,trivial,g1,g2,g3,h1,Nat.le_of_ble_eq_true h2,Nat.eq_of_beq_eq_true h3,h4,by rw [e4,Nat.eq_of_beq_eq_true h5],allSz_ok h6⟩,hwOk_go h7,fun _=>g4⟩
       ·exact h.elim
      ·exact h.elim
     ·exact h.elim
    ·exact h.elim
 all_goals exact wOut_go h
def wFieldAddr (P:Program) (H:Nat→Option Blk) (T j:Nat) (x:V) (k:V→Hp→Prop):Prop:=match x with
 | .ptr id off p=>match fOff P T j with
  |some o=>k (.ptr id (off+o) (p++[j])) []
  |none=>False
 | .eptr id len off p=>match fOff P T j with
  |some o=>match H id with
   |some ⟨some _,_,.agg rows⟩=>len=rows.length∧k (.eptr id len (off+o) (p++[j])) []
   |_=>False
  |none=>False
 | .dptr (.agg vs)=>match fOff P T j with
  |some o=>match vs[j]? with
   |some u=>match hasArr P 5 T with
    |false=>chkP (Nat.beq (V.szs (vs.take j)) o) (k (.dptr u) [])
    |true=>V.szs (vs.take j)=o∧k (.dptr u) []
   |none=>False
  |none=>False
 |_=>False
theorem wFieldAddr_go {P:Program} {H:Nat→Option Blk} {g lnf:Bool} {T j:Nat} {x:V} {k:V→Hp→Prop} (h:wFieldAddr P H T j x k):OutGo (fieldAddrV P H T j x) g lnf k:=by
 cases x
 case ptr id off p=>
  simp only [wFieldAddr] at h
  split at h
  ·rename_i o e;simp only [fieldAddrV,e];exact out_pure trivial h
  ·exact h.elim
 case eptr id len off p=>
  simp only [wFieldAddr] at h
  split at h
  ·rename_i o e
   split at h
   ·rename_i e2;simp only [fieldAddrV,e,e2];exact out_pure h.1 h.2
   ·exact h.elim
  ·exact h.elim
 case dptr v=>
  cases v
  case agg vs=>
   simp only [wFieldAddr] at h
   split at h
   ·rename_i o e
    split at h
    ·rename_i u e2
     simp only [fieldAddrV,e,e2]
     split at h
     ·rw [zE] at h;exact out_pure (Nat.eq_of_beq_eq_true h.1) h.2
     ·exact out_pure h.1 h.2
    ·exact h.elim
   ·exact h.elim
  all_goals exact h.elim
 all_goals exact h.elim
def wField (P:Program) (T j:Nat) (x:V) (k:V→Hp→Prop):Prop:=match x with
 | .agg vs=>match fOff P T j with
  |some o=>match fTy P T j with
   |some F=>match vs[j]? with
    |some u=>match hasArr P 5 T with
     |false=>chkP (Nat.beq (V.szs (vs.take j)) o) (chkP (ldB P F u) (k u []))
     |true=>V.szs (vs.take j)=o∧LdOk P F u∧k u []
    |none=>False
   |none=>False
  |none=>False
 |_=>False
theorem wField_go {P:Program} {g lnf:Bool} {T j:Nat} {x:V} {k:V→Hp→Prop} (h:wField P T j x k):OutGo (fieldV P T j x) g lnf k:=by
 cases x
 case agg vs=>
  simp only [wField] at h
  split at h
  ·rename_i o e
   split at h
   ·rename_i F e1
    split at h
    ·rename_i u e2
     simp only [fieldV,e,e1,e2]
     split at h
     ·rw [zE,zE] at h;exact out_pure ⟨Nat.eq_of_beq_eq_true h.1,ldB_ok h.2.1⟩ h.2.2
     ·exact out_pure ⟨h.1,h.2.1⟩ h.2.2
    ·exact h.elim
   ·exact h.elim
  ·exact h.elim
 all_goals exact h.elim
def wIdxAddr (P:Program) (H:Nat→Option Blk) (T:Nat) (x i:V) (k:V→Hp→Prop):Prop:=match i with
 | .int _ j=>match x with
  | .list _ vs=>match elemT P T with
   |some E=>0≤j∧j<vs.length∧patE P 6 E fun u=>getV vs j=u∧szQ P E u (k (.dptr u) [])
   |none=>False
  | .sl id len=>match elemT P T with
   |some E=>match H id with
    |some ⟨some E',_,.agg rows⟩=>len=rows.length∧0≤j∧j<len∧szO P E=some (P.cellsOf E')∧k (.eptr id len (j.toNat*P.cellsOf E') [j.toNat]) []
    |_=>False
   |none=>False
  | .ptr id off p=>match arrT P T with
   |some (n,E)=>match szO P E with
    |some z=>0≤j∧j<n∧chkP (Nat.ble 2 n) (k (.ptr id (off+j.toNat*z) (p++[j.toNat])) [])
    |none=>False
   |none=>False
  | .own n l=>match l with
   |[.ptr id off p]=>match elemT P T with
    |some E=>match szO P E with
     |some z=>0≤j∧j<n∧k (.ptr id (off+j.toNat*z) (p++[j.toNat])) []
     |none=>False
    |none=>False
   |_=>False
  | .dptr (.agg vs)=>match arrT P T with
   |some (n,E)=>match szO P E with
    |some z=>0≤j∧j<n∧chkP (Nat.ble 2 n) (j<vs.length∧V.szs (vs.take j.toNat)=j.toNat*z∧patE P 6 E fun u=>getV vs j=u∧k (.dptr u) [])
    |none=>False
   |none=>False
  |_=>False
 |_=>False
theorem wIdxAddr_go {P:Program} {H:Nat→Option Blk} {g lnf:Bool} {T:Nat} {x i:V} {k:V→Hp→Prop} (h:wIdxAddr P H T x i k):OutGo (indexAddrV P H T x i) g lnf k:=by
 cases i
 case int ki j=>
  cases x
  case list c vs=>
   simp only [wIdxAddr] at h
   split at h
   ·rename_i E e
    obtain ⟨h1,h2,h3⟩:=h
    obtain ⟨u,rfl,h4⟩:=patE_go _ _ _ _ h3
    have h4:=szQ_go h4
    simp only [indexAddrV,e]
    exact out_pure ⟨h1,h2,h4.1⟩ h4.2
   ·exact h.elim
  case sl id len=>
   simp only [wIdxAddr] at h
   split at h
   ·rename_i E e
    split at h
    ·rename_i e2
     obtain ⟨h1,h2,h3,h4,h5⟩:=h
     simp only [indexAddrV,e,e2]
     exact out_pure ⟨h1,h2,h3,h4⟩ h5
    ·exact h.elim
   ·exact h.elim
  case own n l=>
   simp only [wIdxAddr] at h
   split at h
   ·split at h
    ·rename_i E e
     split at h
     ·rename_i z e2
      simp only [indexAddrV,e,e2]
      exact out_pure ⟨h.1,h.2.1⟩ h.2.2
     ·exact h.elim
    ·exact h.elim
   ·exact h.elim
  case ptr id off p=>
   simp only [wIdxAddr] at h
   split at h
   ·rename_i n E e
    split at h
    ·rename_i z e2
     obtain ⟨h1,h2,h3⟩:=h
     rw [zE] at h3
     simp only [indexAddrV,e,e2]
     exact out_pure ⟨h1,h2,Nat.le_of_ble_eq_true h3.1⟩ h3.2
    ·exact h.elim
   ·exact h.elim
  case dptr v=>
   cases v
   case agg vs=>
    simp only [wIdxAddr] at h
    split at h
    ·rename_i n E e
     split at h
     ·rename_i z e2
      obtain ⟨h1,h2,h3⟩:=h
      rw [zE] at h3
      obtain ⟨h3,h4,h5,h6⟩:=h3
      obtain ⟨u,rfl,h7⟩:=patE_go _ _ _ _ h6
      simp only [indexAddrV,e,e2]
      exact out_pure ⟨h1,h2,Nat.le_of_ble_eq_true h3,by omega,h5⟩ h7
     ·exact h.elim
    ·exact h.elim
   all_goals exact h.elim
  all_goals exact h.elim
 all_goals exact h.elim
def wIdx (P:Program) (T:Nat) (x i:V) (k:V→Hp→Prop):Prop:=match i with
 | .int _ j=>match x with
  | .agg vs=>match arrT P T with
   |some (n,E)=>match szO P E with
    |some z=>0≤j∧j<n∧j<vs.length∧V.szs (vs.take j.toNat)=j.toNat*z∧patE P 6 E fun u=>getV vs j=u∧ldQ P E u (k u [])
    |none=>False
   |none=>False
  | .str s=>chkP (strT P T) (0≤j∧j<s.length∧∀x:Int,x=(s.getD j.toNat 0).toNat→k (.int .u8 x) [])
  |_=>False
 |_=>False
theorem wIdx_go {P:Program} {g lnf:Bool} {T:Nat} {x i:V} {k:V→Hp→Prop} (h:wIdx P T x i k):OutGo (indexV P T x i) g lnf k:=by
 cases i
 case int ki j=>
  cases x
  case agg vs=>
   simp only [wIdx] at h
   split at h
   ·rename_i n E e
    split at h
    ·rename_i z e2
     obtain ⟨h1,h2,h3,h5,h6⟩:=h
     obtain ⟨u,rfl,h7⟩:=patE_go _ _ _ _ h6
     have h7:=ldQ_go h7
     simp only [indexV,e,e2]
     exact out_pure ⟨h1,h2,by omega,h5,h7.1⟩ h7.2
    ·exact h.elim
   ·exact h.elim
  case str s=>
   simp only [wIdx,zE] at h
   exact out_pure ⟨h.1,h.2.1,h.2.2.1⟩ (h.2.2.2 _ rfl)
  all_goals exact h.elim
 all_goals exact h.elim
def putB (off:Nat→Option Nat) (szp:Nat→Option Nat):List (Nat×V)→List V→Option (List V)
 |[],vs=>some vs
 |(k,x)::r,vs=>match vs[k]? with
  |some z=>match off k with
   |some o=>match szp k with
    |some s=>match (Nat.beq o (V.szs (vs.take k))&&(Nat.beq s x.sz&&(Nat.beq x.sz z.sz&&x.boxy))) with
     |true=>putB off szp r (vs.set k x)
     |false=>none
    |none=>none
   |none=>none
  |none=>none
theorem putB_ok {P:Program} {off:Nat→Option Nat} {szp:Nat→Option Nat}:∀{parts:List (Nat×V)} {vs ws:List V},putB off szp parts vs=some ws→(putParts P off szp parts vs).1∧(putParts P off szp parts vs).2=ws
 |[],vs,ws,h=>by cases h;exact ⟨trivial,rfl⟩
 |(k,x)::r,vs,ws,h=>by
  simp only [putB] at h
  simp only [putParts]
  split at h
  ·rename_i z hz
   split at h
   ·rename_i o ho
    split at h
    ·rename_i s hs
     split at h
     ·rename_i hb
      simp only [Bool.and_eq_true] at hb
      have:=putB_ok (P:=P) h
      rw [hz,ho,hs]
      exact ⟨⟨⟨Nat.eq_of_beq_eq_true hb.1,Nat.eq_of_beq_eq_true hb.2.1,Nat.eq_of_beq_eq_true hb.2.2.1,hb.2.2.2⟩,this.1⟩,this.2⟩
     ·cases h
    ·cases h
   ·cases h
  ·cases h
def wBuild (P:Program) (g lnf:Bool) (hint:Option Nat) (T:Nat) (parts:List (Nat×V)) (k:V→Hp→Prop):Prop:=match hint with
 |some _=>wOut g lnf (buildV P T parts) k
 |none=>match zeroT P T with
  | .agg zs=>match arrT P T with
   |some (n,E)=>match szO P E with
    |some z=>chkP (zeroOk P T (.agg zs)) (match putB (fun k=>some (k*z)) (fun _=>some z) parts zs with
     |some ws=>k (.agg ws) []
     |none=>False)
    |none=>False
   |none=>chkP (zeroOk P T (.agg zs)) (chkP (fldsOk P T) (match putB (fOff P T) (fun k=>(fTy P T k).bind (szO P)) parts zs with
    |some ws=>k (.agg ws) []
    |none=>False))
  |_=>False
theorem wBuild_go {P:Program} {hint:Option Nat} {g lnf:Bool} {T:Nat} {parts:List (Nat×V)} {k:V→Hp→Prop} (h:wBuild P g lnf hint T parts k):OutGo (buildV P T parts) g lnf k:=by
 cases hint with
 |some _=>exact wOut_go h
 |none=>
  simp only [wBuild] at h
  split at h
  ·rename_i zs e
   split at h
   ·rename_i n E e1
    split at h
    ·rename_i z e2
     rw [zE] at h
     obtain ⟨h1,h2⟩:=h
     split at h2
     ·rename_i ws hw
      have:=putB_ok (P:=P) hw
      simp only [buildV,e,e1,e2]
      rw [this.2]
      exact out_pure ⟨h1,this.1⟩ h2
     ·exact h2.elim
    ·exact h.elim
   ·rename_i e1
    rw [zE,zE] at h
    obtain ⟨h1,h0,h2⟩:=h
    split at h2
    ·rename_i ws hw
     have:=putB_ok (P:=P) hw
     simp only [buildV,e,e1]
     rw [this.2]
     exact out_pure ⟨h1,h0,this.1⟩ h2
    ·exact h2.elim
  ·exact h.elim
def wBSlice (P:Program) (H:Nat→Option Blk) (g:Bool) (T n:Nat) (parts:List (Nat×V)) (k:V→Hp→Prop):Prop:=match elemT P T with
 |some E=>match szO P E with
  |some z=>chkP (Nat.ble (n*z) 16777216) (chkP (Nat.ble n lenMax) (chkP (Nat.ble 1 z) (chkP (zeroOk P E (zeroT P E)) (match purEs H (parts.map (·.2)) with
   |some eqs=>eqsP eqs (match putB (fun k=>some (k*z)) (fun _=>some z) ((parts.map (·.1)).zip (pureVs H (parts.map (·.2))).2.1) (List.replicate n (zeroT P E)) with
    |some ws=>chkP (hwOk g (frz H (pureVs H (parts.map (·.2))).2.2)) (k (.list true ws) (frz H (pureVs H (parts.map (·.2))).2.2))
    |none=>False)
   |none=>False))))
  |none=>False
 |none=>False
def wBOwn (P:Program) (H:Nat→Option Blk) (id T n:Nat) (parts:List (Nat×V)) (k:V→Hp→Prop):Prop:=match elemT P T with
 |some E=>match szO P E with
  |some z=>chkP (Nat.ble (n*z) 16777216) (chkP (Nat.ble n lenMax) (chkP (Nat.ble 1 z) (chkP (zeroOk P E (zeroT P E)) (match purEs H (parts.map (·.2)) with
   |some eqs=>eqsP eqs (match (pureVs H (parts.map (·.2))).2.2 with
    |[]=>match putB (fun k=>some (k*z)) (fun _=>some z) ((parts.map (·.1)).zip (pureVs H (parts.map (·.2))).2.1) (List.replicate n (zeroT P E)) with
     |some ws=>k (.sl id n) [(id,⟨some E,false,.agg ws⟩)]
     |none=>False
    |_::_=>False)
   |none=>False))))
  |none=>False
 |none=>False
theorem wBOwn_go {P:Program} {H:Nat→Option Blk} {lnf:Bool} {id T n:Nat} {parts:List (Nat×V)} {k:V→Hp→Prop} (h:wBOwn P H id T n parts k):OutGo (buildOwnV P H id T n parts) false lnf k:=by
 unfold wBOwn at h
 split at h
 ·rename_i E e
  split at h
  ·rename_i z e2
   simp only [zE] at h
   obtain ⟨h1,h2,h3,h4,h5⟩:=h
   split at h5
   ·rename_i eqs he
    rw [eqsP_and] at h5
    obtain ⟨h6,h7⟩:=h5
    split at h7
    ·rename_i hf
     split at h7
     ·rename_i ws hw
      have:=putB_ok (P:=P) hw
      simp only [buildOwnV,e,e2]
      rw [this.2]
      exact ⟨⟨⟨Nat.le_of_ble_eq_true h1,Nat.le_of_ble_eq_true h2,Nat.le_of_ble_eq_true h3,h4,purEs_ok H he h6,this.1⟩,hf⟩,(fun e=>by cases e),fun _=>h7⟩
     ·exact h7.elim
    ·exact h7.elim
   ·exact h5.elim
  ·exact h.elim
 ·exact h.elim
def wBS (P:Program) (H:Nat→Option Blk) (g:Bool) (id T n:Nat) (parts:List (Nat×V)) (k:V→Hp→Prop):Prop:=match ownB P g T n with
 |true=>wBOwn P H id T n parts k
 |false=>wBSlice P H g T n parts k
theorem wBSlice_go {P:Program} {H:Nat→Option Blk} {g lnf:Bool} {T n:Nat} {parts:List (Nat×V)} {k:V→Hp→Prop} (h:wBSlice P H g T n parts k):OutGo (buildSliceV P H T n parts) g lnf k:=by
 unfold wBSlice at h
 split at h
 ·rename_i E e
  split at h
  ·rename_i z e2
   simp only [zE] at h
   obtain ⟨h1,h2,h3,h4,h5⟩:=h
   split at h5
   ·rename_i eqs he
    rw [eqsP_and] at h5
    obtain ⟨h6,h7⟩:=h5
    split at h7
    ·rename_i ws hw
     have:=putB_ok (P:=P) hw
     simp only [buildSliceV,e,e2]
     rw [this.2]
     exact ⟨⟨Nat.le_of_ble_eq_true h1,Nat.le_of_ble_eq_true h2,Nat.le_of_ble_eq_true h3,h4,purEs_ok H he h6,this.1⟩,hwOk_go h7.1,fun _=>(h7.2)⟩
    ·exact h7.elim
   ·exact h5.elim
  ·exact h.elim
 ·exact h.elim
theorem wBS_go {P:Program} {H:Nat→Option Blk} {g lnf:Bool} {id T n:Nat} {ps:Array (Nat×Operand)} {ρ:Operand→V} {k:V→Hp→Prop} (h:wBS P H g id T n (ps.toList.map fun p=>(p.1,ρ p.2)) k):OutGo (outOp P H g id ρ (.buildSlice T n ps)) g lnf k:=by
 unfold wBS at h
 simp only [outOp]
 cases ho:ownB P g T n with
 |true=>
  rw [ho] at h
  have hgf:g=false:=by cases g<;>first|rfl|(simp [ownB] at ho)
  subst hgf
  exact wBOwn_go h
 |false=>
  rw [ho] at h
  exact wBSlice_go h
def wExtract (j:Nat) (x:V) (k:V→Hp→Prop):Prop:=match x with
 | .tup vs=>match vs[j]? with
  |some u=>k u []
  |none=>False
 |_=>False
theorem wExtract_go {g lnf:Bool} {j:Nat} {x:V} {k:V→Hp→Prop} (h:wExtract j x k):OutGo (extractV j x) g lnf k:=by
 cases x
 case tup vs=>
  simp only [wExtract] at h
  split at h
  ·rename_i u e;simp only [extractV,e];exact out_pure trivial h
  ·exact h.elim
 all_goals exact h.elim
open Go
def rawO (s:Nat→Option V):Operand→V
 | .tmp t=>match s t with
  |some v=>v
  |none=>.junk
 | .const (.bool b)=>.gd true (.bool b)
 |x=>evO s x
def V.plain:V→Bool
 | .gd _ _=>false
 |_=>true
theorem plain_ev {v:V} (h:v.plain=true):evV v=v∧gkV v=true:=by cases v<;>first|exact ⟨rfl,rfl⟩|cases h
theorem cV_plain (v:Value):(cV v).plain=true:=by
 unfold cV
 split<;>rfl
theorem cO_plain (v:Value):(cO v).plain=true:=by
 unfold cO
 split
 ·split<;>rfl
 ·exact cV_plain v
theorem rawO_veq {s:Nat→Option V} {x:Operand} (h:gokB s x=true):evV (rawO s x)=evO s x∧gkV (rawO s x)=true:=by
 cases x with
 |tmp t=>
  simp only [rawO,gokB,evO] at h ⊢
  cases hs:s t with
  |none=>simp [evV,gkV]
  |some v=>
   rw [hs] at h
   simp only at h ⊢
   exact ⟨by cases v<;>rfl,h⟩
 |const v=>
  by_cases hb:∃b,v=.bool b
  ·obtain ⟨b,rfl⟩:=hb
   exact ⟨rfl,rfl⟩
  ·have e:rawO s (.const v)=cO v:=by cases v<;>first|rfl|exact absurd ⟨_,rfl⟩ hb
   rw [e]
   exact plain_ev (cO_plain v)
 |func f=>exact ⟨rfl,rfl⟩
 |global g=>exact ⟨rfl,rfl⟩
def rawG (g:Bool) (s:Nat→Option V) (x:Operand):V:=match g with
 |true=>evO s x
 |false=>rawO s x
def isB:V→Bool
 | .bool _=>true
 |_=>false
theorem isB_ok {v:V} (h:isB v=true):∃b,v=.bool b:=by cases v<;>first|exact ⟨_,rfl⟩|cases h
def OpGo (P:Program) (g lnf:Bool) (id:Nat) (s:Nat→Option V) (H:Nat→Option Blk) (op:Op) (k:V→Hp→Prop):Prop:=
 (∃v hw,HOp P s H id op v hw∧k v hw)∨∃p r,opD (E0 P) s H op p r∧opOk P (E0 P) g id s H op p r∧(g=true→opHw P g id s H op=[])∧((lnf=true→opLn P g id s H op)→∃v',VEq (opV P g id s H op r) v'∧(g=true→v'=opV P g id s H op r)∧k v' (opHw P g id s H op))
def wCallP (P:Program) (Sp:SpT) (g:Bool) (s:Nat→Option V) (H:Nat→Option Blk) (fid:Nat) (caps:List V) (f:Operand) (args:List Operand) (k:V→Hp→Prop):Prop:=
 chkP (gokB s f) (chkP (goksB s args) (chkP (noAgg caps) (match purEs H (args.map (evO s)++caps) with
  |some eqs=>eqsP eqs (chkP (hwOk g (frz H (pureVs H (args.map (evO s)++caps)).2.2)) (Sp.c fid (pureVs H (args.map (evO s)++caps)).2.1 fun r=>k r (frz H (pureVs H (args.map (evO s)++caps)).2.2)))
  |none=>False)))
def wCallB (P:Program) (body:HBody) (n:Nat) (id:Nat) (s:Nat→Option V) (H:Nat→Option Blk) (caps:List V) (f:Operand) (args:List Operand) (k:V→Hp→Prop):Prop:=match caps with
 |[]=>chkP (gokB s f) (chkP (goksB s args) (match purEs H ((args.drop n).map (evO s)) with
  |some eqs=>eqsP eqs (body ((args.take n).map (evO s)) (pureVs H ((args.drop n).map (evO s))).2.1 (over H (frz H (pureVs H ((args.drop n).map (evO s))).2.2)) id fun v hw=>k v (hw++frz H (pureVs H ((args.drop n).map (evO s))).2.2))
  |none=>False))
 |_::_=>False
def wCall (P:Program) (Sp:SpT) (g:Bool) (id:Nat) (s:Nat→Option V) (H:Nat→Option Blk) (f:Operand) (args:List Operand) (k:V→Hp→Prop):Prop:=match fnOf (evO s f) with
 |some (fid,caps)=>match Sp.h fid with
  |none=>wCallP P Sp g s H fid caps f args k
  |some (n,body)=>wCallB P body n id s H caps f args k
 |none=>False
theorem over_frz_get {H:Nat→Option Blk}:∀{l:List Nat} {c:Nat} {b:Blk},over H (frz H l) c=some b→∃fz,H c=some { b with fz:=fz }
 |[],c,b,h=>⟨b.fz,h⟩
 |i::r,c,b,h=>by
  simp only [frz] at h
  cases hi:H i with
  |none=>rw [hi] at h;exact over_frz_get h
  |some b0=>
   rw [hi] at h
   simp only at h
   cases hf:b0.fz with
   |true=>rw [hf] at h;exact over_frz_get h
   |false=>
    rw [hf] at h
    simp only at h
    rw [zG] at h
    by_cases e:c=i
    ·subst e
     rw [setO_same] at h
     cases h
     exact ⟨b0.fz,hi⟩
    ·rw [zV _ _ e] at h
     exact over_frz_get h
theorem RId.frz {H:Nat→Option Blk} {l:List Nat} {v:V} {j:Nat} (h:RId (over H (frz H l)) v j):RId H v j:=by
 rcases h with h|⟨c,hc,fz,t,e,hj⟩
 ·exact .inl h
 ·obtain ⟨fz',e'⟩:=over_frz_get e
  exact .inr ⟨c,hc,fz',t,e',hj⟩
def wPick (g:Bool) (s:Nat→Option V) (c a b:Operand) (k:V→Hp→Prop):Prop:=match rawO s c with
 | .gd true (.bool t)=>match t with
  |true=>chkP (gokB s a) (chkP (isB (evO s a)) (k (rawG g s a) []))
  |false=>chkP (gokB s b) (chkP (isB (evO s b)) (k (rawG g s b) []))
 | .bool t=>chkP (gokB s a) (chkP (gokB s b) (chkP (isB (evO s a)) (chkP (isB (evO s b)) (∀x:Bool,x=(bif t then boolOf (evO s a) else boolOf (evO s b))→k (.bool x) []))))
 |_=>False
def wNil (P:Program) (H:Nat→Option Blk) (x:V) (k:V→Hp→Prop):Prop:=match x with
 | .ptr id off p=>k (.ptr id off p) []
 | .eptr i len off p=>match H i with
  |some ⟨some _,_,.agg rows⟩=>len=rows.length∧k (.eptr i len off p) []
  |_=>False
 | .dptr v=>k (.dptr v) []
 | .fn f caps=>k (.fn f caps) []
 |_=>False
def wMM (mx:Bool) (xs:List V) (k:V→Hp→Prop):Prop:=match xs with
 |[.int ka x,.int _ y]=>match mx with
  |true=>∀z:Int,z=(if x<y then y else x)→k (.int ka z) []
  |false=>∀z:Int,z=(if y<x then y else x)→k (.int ka z) []
 |_=>False
theorem wMM_go {g lnf mx:Bool} {xs:List V} {k:V→Hp→Prop} (h:wMM mx xs k):OutGo (minmaxV mx xs) g lnf k:=by
 unfold wMM at h
 split at h
 ·cases mx
  ·exact out_pure trivial (h _ rfl)
  ·exact out_pure trivial (h _ rfl)
 ·exact h.elim
def wOp (P:Program) (Sp:SpT) (g lnf:Bool) (id:Nat) (s:Nat→Option V) (H:Nat→Option Blk) (hint:Option Nat) (op:Op) (k:V→Hp→Prop):Prop:=match op with
 | .call { callee:=.value f,args:=args,argTypes:=_ }=>wCall P Sp g id s H f args.toList k
 | .call { callee:=.builtin .len,args:=args,argTypes:=tys }=>match args.toList with
  |[x]=>match tys.toList with
   |T::_=>chkP (gokB s x) (wLen P H lnf T (evO s x) k)
   |[]=>False
  |_=>False
 | .call { callee:=.builtin .min,args:=args,argTypes:=_ }=>chkP (goksB s args.toList) (wMM false (args.toList.map (evO s)) k)
 | .call { callee:=.builtin .max,args:=args,argTypes:=_ }=>chkP (goksB s args.toList) (wMM true (args.toList.map (evO s)) k)
 | .pick c a b=>wPick g s c a b k
 | .move x=>chkP (gokB s x) (chkP (evO s x).plain (k (rawG g s x) []))
 | .assign x=>chkP (gokB s x) (chkP (evO s x).plain (k (rawG g s x) []))
 | .load T a=>chkP (gokB s a) (wLoad P H hint T (evO s a) k)
 | .store T a x=>chkP (!g) (chkP (gokB s a) (chkP (gokB s x) (wStore P H hint T (evO s x) (evO s a) k)))
 | .alloc T=>chkP (!g) (chkP (zeroOk P T (zeroT P T)) (k (.ptr id 0 []) [(id,⟨none,false,zeroT P T⟩)]))
 | .box T x=>chkP (!g) (chkP (gokB s x) (chkP (evO s x).boxy (k (.ptr id 0 []) [(id,⟨none,false,evO s x⟩)])))
 | .build T ps=>chkP (goksB s (ps.toList.map (·.2))) (wBuild P g lnf hint T (ps.toList.map fun p=>(p.1,evO s p.2)) k)
 | .buildSlice T n ps=>chkP (goksB s (ps.toList.map (·.2))) (wBS P H g id T n (ps.toList.map fun p=>(p.1,evO s p.2)) k)
 | .nilCheck x=>chkP (gokB s x) (wNil P H (evO s x) k)
 | .binOp op T x y _=>chkP (gokB s x) (chkP (gokB s y) (wBin P g lnf op T (evO s x) (evO s y) k))
 | .unOp op _ x=>chkP (gokB s x) (wUn op (evO s x) k)
 | .slice T x lo hi mx=>chkP (goksB s (Op.slice T x lo hi mx).operands.toList) (wSlice P H g lnf T (lo.map (evO s)) (hi.map (evO s)) (mx.map (evO s)) (evO s x) k)
 | .fieldAddr T x j=>chkP (gokB s x) (wFieldAddr P H T j (evO s x) k)
 | .field T x j=>chkP (gokB s x) (wField P T j (evO s x) k)
 | .indexAddr T x i=>chkP (gokB s x) (chkP (gokB s i) (wIdxAddr P H T (evO s x) (evO s i) k))
 | .index T x i=>chkP (gokB s x) (chkP (gokB s i) (wIdx P T (evO s x) (evO s i) k))
 | .extract t j=>chkP (gokB s t) (wExtract j (evO s t) k)
 | .lookup T x i ok=>chkP (gokB s x) (chkP (gokB s i) (wLookup P H T (evO s x) (evO s i) ok k))
 | .mapUpdate T m i x=>chkP (!g) (chkP (gokB s m) (chkP (gokB s i) (chkP (gokB s x) (wUpdMap P H T (evO s i) (evO s x) (evO s m) k))))
 |op=>chkP (goksB s op.operands.toList) (wOut g lnf (outOp P H g id (evO s) op) k)
section
variable {P:Program} {Sp:SpT} {g lnf:Bool} {id:Nat} {s:Nat→Option V} {H:Nat→Option Blk} {hint:Option Nat} {k:V→Hp→Prop}
theorem OpGo_of {op:Op} (hd:∀p r,opD (E0 P) s H op p r=(p=True∧r=.junk)) (hok:opOk P (E0 P) g id s H op True .junk=(goks s op.operands.toList∧(outOp P H g id (evO s) op).ok∧(g=true→(outOp P H g id (evO s) op).hw=[])))
  (hv:opV P g id s H op .junk=(outOp P H g id (evO s) op).v) (hh:opHw P g id s H op=(outOp P H g id (evO s) op).hw) (hl:opLn P g id s H op=(outOp P H g id (evO s) op).ln) (hg:goks s op.operands.toList) (h:OutGo (outOp P H g id (evO s) op) g lnf k):OpGo P g lnf id s H op k:=by
 obtain ⟨h1,h2,h3⟩:=h
 refine .inr ⟨True,.junk,by rw [hd];exact ⟨rfl,rfl⟩,by rw [hok];exact ⟨hg,h1,h2⟩,by rw [hh];exact h2,fun hln=>?_⟩
 rw [hl] at hln
 exact ⟨_,VEq.refl _,fun _=>rfl,by rw [hv,hh];exact h3 hln⟩
theorem wCall_go (hSp:SpOk P Sp) {f:Operand} {args:Array Operand} {tys:Array TypeId} (h:wCall P Sp g id s H f args.toList k):OpGo P g lnf id s H (.call ⟨.value f,args,tys⟩) k:=by
 unfold wCall at h
 split at h
 ·rename_i fid caps e
  split at h
  rotate_left
  ·rename_i n body eb
   refine .inl ?_
   cases caps with
   |cons _ _=>exact h.elim
   |nil=>
    simp only [wCallB,zE] at h
    obtain ⟨h1,h2,h3⟩:=h
    split at h3
    ·rename_i eqs he
     rw [eqsP_and] at h3
     obtain ⟨h4,h5⟩:=h3
     obtain ⟨v,hw,⟨hv,Hf,Hf',r,ρ,q1,q2,q3,q4,q5,q6,q7⟩,hk⟩:=hSp.h _ _ _ eb _ _ _ _ _ h5
     have hfn:evO s f=.fn fid []:=by
      cases hv:evO s f<;>rw [hv] at e<;>simp [fnOf] at e
      obtain ⟨rfl,rfl⟩:=e;rfl
     refine ⟨v,_,⟨fid,args.toList.take n,args.toList.drop n,hv,Hf,Hf',r,ρ,hfn,gokB_iff.1 h1,(List.take_append_drop n _).symm,goksB_iff.1 h2,purEs_ok H he h4,q1,q2,q3,q4,q5, ?_,fun i hi=>?_⟩,hk⟩
     ·rcases q6 with q6|⟨q6,q6'⟩
      ·refine .inl ?_
       funext c
       rw [look_append,q6]
       by_cases hex:∃i,Hf' i≠none∧ρ i=c
       ·obtain ⟨i,hi,rfl⟩:=hex
        have hj:∀j,Hf' j≠none→ρ j=ρ i→j=i:=fun j hj e=>q3.inj j i (.inr hj) (.inr hi) e
        rw [backH_hit hi hj,backH_hit hi hj]
        obtain ⟨b,hb⟩:=Option.ne_none_iff_exists'.1 hi
        rw [hb];rfl
       ·have hm':∀i,Hf' i≠none→ρ i≠c:=fun i hi e=>hex ⟨i,hi,e⟩
        rw [yD hm',yD hm']
      ·exact .inr ⟨q6,by rw [q6'];rfl⟩
     ·obtain ⟨x,hx,hm⟩:=q7 i hi
      obtain ⟨y,hy,rfl⟩:=List.mem_map.1 hx
      exact ⟨y,hy,hm.frz⟩
    ·exact h3.elim
  unfold wCallP at h
  simp only [zE] at h
  obtain ⟨h1,h2,h3,h4⟩:=h
  split at h4
  ·rename_i eqs he
   rw [eqsP_and] at h4
   obtain ⟨h5,h6,h7⟩:=h4
   obtain ⟨r,hr,hk⟩:=hSp.c _ _ _ h7
   have hfz:g=true→frz H (pureVs H (args.toList.map (evO s)++caps)).2.2=[]:=fun hg=>hwOk_go h6 hg
   refine .inr ⟨True,r, ?_, ?_, ?_,fun _=>⟨r,VEq.refl _,fun _=>rfl, ?_⟩⟩
   ·simp only [opD,e];exact fun _=>hr
   ·simp only [opOk,e]
    exact ⟨gokB_iff.1 h1,noAgg_mem h3,goksB_iff.1 h2,purEs_ok H he h5,hfz,fun _=>hr,trivial⟩
   ·intro hg
    simp only [opHw,e,hfz hg]
   ·simp only [opHw,e];exact hk
  ·exact h4.elim
 ·exact h.elim
theorem wPick_go {c a b:Operand} (hgc:gokB s c=true→True) (h:wPick g s c a b k) (hg:gokB s c=true):OpGo P g lnf id s H (.pick c a b) k:=by
 have hrc:=rawO_veq hg
 unfold wPick at h
 split at h
 ·rename_i t e
  rw [e] at hrc
  have hc:evO s c=.bool t:=hrc.1.symm
  cases t with
  |true=>
   simp only [zE] at h
   obtain ⟨h1,h2,h3⟩:=h
   have hra:=rawO_veq h1
   obtain ⟨x,hx⟩:=isB_ok h2
   have hu:opV P g id s H (.pick c a b) .junk=.bool x:=by simp only [opV,hc,boolOf,cond_true,hx]
   refine .inr ⟨True,.junk,⟨rfl,rfl⟩, ?_,fun _=>rfl,fun _=>⟨_, ?_, ?_,h3⟩⟩
   ·simp only [opOk,hc]
    exact ⟨gokB_iff.1 hg,fun _=>⟨gokB_iff.1 h1,x,hx⟩,fun e=>by cases e⟩
   ·rw [hu]
    cases g
    ·exact ⟨by simp only [rawG];rw [hra.1,hx];rfl,by simp only [rawG];rw [hra.2];rfl⟩
    ·simp only [rawG];rw [hx];exact VEq.refl _
   ·intro e;subst e;rw [hu];exact hx
  |false=>
   simp only [zE] at h
   obtain ⟨h1,h2,h3⟩:=h
   have hra:=rawO_veq h1
   obtain ⟨x,hx⟩:=isB_ok h2
   have hu:opV P g id s H (.pick c a b) .junk=.bool x:=by simp only [opV,hc,boolOf,cond_false,hx]
   refine .inr ⟨True,.junk,⟨rfl,rfl⟩, ?_,fun _=>rfl,fun _=>⟨_, ?_, ?_,h3⟩⟩
   ·simp only [opOk,hc]
    exact ⟨gokB_iff.1 hg,(fun e=>by cases e),fun _=>⟨gokB_iff.1 h1,x,hx⟩⟩
   ·rw [hu]
    cases g
    ·exact ⟨by simp only [rawG];rw [hra.1,hx];rfl,by simp only [rawG];rw [hra.2];rfl⟩
    ·simp only [rawG];rw [hx];exact VEq.refl _
   ·intro e;subst e;rw [hu];exact hx
 ·rename_i t e
  rw [e] at hrc
  have hc:evO s c=.bool t:=hrc.1.symm
  simp only [zE] at h
  obtain ⟨h1,h2,h3,h4,h5⟩:=h
  refine .inr ⟨True,.junk,⟨rfl,rfl⟩, ?_,fun _=>rfl,fun _=>⟨_,VEq.refl _,fun _=>rfl, ?_⟩⟩
  ·simp only [opOk,hc]
   exact ⟨gokB_iff.1 hg,fun _=>⟨gokB_iff.1 h1,isB_ok h3⟩,fun _=>⟨gokB_iff.1 h2,isB_ok h4⟩⟩
  ·simp only [opV,hc,boolOf]
   exact h5 _ rfl
 ·exact h.elim
theorem wNil_go {x:Operand} (h:wNil P H (evO s x) k):OutGo (outOp P H g id (evO s) (.nilCheck x)) g lnf k:=by
 simp only [outOp]
 generalize evO s x=v at h
 cases v
 case ptr=>exact out_pure trivial h
 case dptr=>exact out_pure trivial h
 case fn=>exact out_pure trivial h
 case eptr i len off p=>
  simp only [wNil] at h
  split at h
  ·rename_i e;simp only [e];exact out_pure h.1 h.2
  ·exact h.elim
 all_goals exact h.elim
theorem goks_of1 {x:Operand} (h:gokB s x=true):goks s [x]:=by rw [goks_cons];exact ⟨gokB_iff.1 h,by simp⟩
theorem goks_of2 {x y:Operand} (h:gokB s x=true) (h':gokB s y=true):goks s [x,y]:=by rw [goks_cons,goks_cons];exact ⟨gokB_iff.1 h,gokB_iff.1 h',by simp⟩
theorem not_true {b:Bool} (h:(!b)=true):b=false:=by cases b<;>first|rfl|cases h
theorem wOp_go (hSp:SpOk P Sp) {op:Op} (h:wOp P Sp g lnf id s H hint op k):OpGo P g lnf id s H op k:=by
 cases op
 case call c=>
  obtain ⟨callee,args,tys⟩:=c
  cases callee with
  |value f=>exact wCall_go hSp h
  |builtin b=>
   cases b
   case len=>
    obtain ⟨al⟩:=args
    obtain ⟨tl⟩:=tys
    simp only [wOp] at h
    split at h
    ·split at h
     ·rw [zE] at h
      refine OpGo_of (fun p r=>rfl) rfl rfl rfl rfl (by simp [Op.operands,Call.operands];exact gokB_iff.1 h.1) ?_
      exact wLen_go h.2
     ·exact h.elim
    ·exact h.elim
   case min=>
    simp only [wOp,zE] at h
    exact OpGo_of (fun p r=>rfl) rfl rfl rfl rfl (by simpa [Op.operands,Call.operands] using goksB_iff.1 h.1) (wMM_go h.2)
   case max=>
    simp only [wOp,zE] at h
    exact OpGo_of (fun p r=>rfl) rfl rfl rfl rfl (by simpa [Op.operands,Call.operands] using goksB_iff.1 h.1) (wMM_go h.2)
   all_goals
    simp only [wOp,zE] at h
    exact OpGo_of (fun p r=>rfl) rfl rfl rfl rfl (goksB_iff.1 h.1) (wOut_go h.2)
  |invoke v m=>
   simp only [wOp,zE] at h
   exact OpGo_of (fun p r=>rfl) rfl rfl rfl rfl (goksB_iff.1 h.1) (wOut_go h.2)
 case pick c a b=>
  by_cases hg:gokB s c=true
  ·exact wPick_go (fun _=>trivial) h hg
  ·exfalso
   simp only [wOp,wPick] at h
   cases c with
   |tmp t=>
    simp only [gokB] at hg
    simp only [rawO] at h
    cases hs:s t with
    |none=>rw [hs] at hg;simp at hg
    |some v=>
     rw [hs] at hg h
     have hg:¬gkV v=true:=hg
     by_cases hv:∃c u,v=.gd c u
     ·obtain ⟨c,u,rfl⟩:=hv
      simp only [gkV] at hg
      cases c
      ·exact h
      ·exact hg rfl
     ·refine hg ?_
      cases v<;>first|rfl|exact absurd ⟨_,_,rfl⟩ hv
   |_=>simp [gokB] at hg
 case move x=>
  simp only [wOp,zE] at h
  obtain ⟨h1,h2,h3⟩:=h
  have:=rawO_veq h1
  have hp:=plain_ev h2
  refine .inr ⟨True,.junk,⟨rfl,rfl⟩,⟨goks_of1 h1,trivial,fun _=>rfl⟩,fun _=>rfl,fun _=>⟨rawG g s x, ?_, ?_,h3⟩⟩
  ·cases g
   ·exact ⟨hp.1.trans this.1.symm,hp.2.trans this.2.symm⟩
   ·exact VEq.refl _
  ·intro e;subst e;rfl
 case assign x=>
  simp only [wOp,zE] at h
  obtain ⟨h1,h2,h3⟩:=h
  have:=rawO_veq h1
  have hp:=plain_ev h2
  refine .inr ⟨True,.junk,⟨rfl,rfl⟩,⟨goks_of1 h1,trivial,fun _=>rfl⟩,fun _=>rfl,fun _=>⟨rawG g s x, ?_, ?_,h3⟩⟩
  ·cases g
   ·exact ⟨hp.1.trans this.1.symm,hp.2.trans this.2.symm⟩
   ·exact VEq.refl _
  ·intro e;subst e;rfl
 case load T a=>
  simp only [wOp,zE] at h
  exact OpGo_of (fun p r=>rfl) rfl rfl rfl rfl (goks_of1 h.1) (wLoad_go h.2)
 case store T a x=>
  simp only [wOp,zE] at h
  have:=not_true h.1
  subst this
  exact OpGo_of (fun p r=>rfl) rfl rfl rfl rfl (goks_of2 h.2.1 h.2.2.1) (wStore_go h.2.2.2)
 case alloc T=>
  simp only [wOp,zE] at h
  have:=not_true h.1
  subst this
  exact OpGo_of (fun p r=>rfl) rfl rfl rfl rfl (by simp [Op.operands]) ⟨h.2.1,(fun e=>by cases e),fun _=>h.2.2⟩
 case box T x=>
  simp only [wOp,zE] at h
  have:=not_true h.1
  subst this
  exact OpGo_of (fun p r=>rfl) rfl rfl rfl rfl (goks_of1 h.2.1) ⟨h.2.2.1,(fun e=>by cases e),fun _=>h.2.2.2⟩
 case build T ps=>
  simp only [wOp,zE] at h
  exact OpGo_of (fun p r=>rfl) rfl rfl rfl rfl (by simpa [Op.operands] using goksB_iff.1 h.1) (wBuild_go h.2)
 case buildSlice T n ps=>
  simp only [wOp,zE] at h
  exact OpGo_of (fun p r=>rfl) rfl rfl rfl rfl (by simpa [Op.operands] using goksB_iff.1 h.1) (wBS_go h.2)
 case nilCheck x=>
  simp only [wOp,zE] at h
  exact OpGo_of (fun p r=>rfl) rfl rfl rfl rfl (goks_of1 h.1) (wNil_go h.2)
 case binOp op T x y T'=>
  simp only [wOp,zE] at h
  exact OpGo_of (fun p r=>rfl) rfl rfl rfl rfl (goks_of2 h.1 h.2.1) (wBin_go h.2.2)
 case unOp op T x=>
  simp only [wOp,zE] at h
  exact OpGo_of (fun p r=>rfl) rfl rfl rfl rfl (goks_of1 h.1) (wUn_go h.2)
 case slice T x lo hi mx=>
  simp only [wOp,zE] at h
  exact OpGo_of (fun p r=>rfl) rfl rfl rfl rfl (goksB_iff.1 h.1) (wSlice_go h.2)
 case fieldAddr T x j=>
  simp only [wOp,zE] at h
  exact OpGo_of (fun p r=>rfl) rfl rfl rfl rfl (goks_of1 h.1) (wFieldAddr_go h.2)
 case field T x j=>
  simp only [wOp,zE] at h
  exact OpGo_of (fun p r=>rfl) rfl rfl rfl rfl (goks_of1 h.1) (wField_go h.2)
 case indexAddr T x i=>
  simp only [wOp,zE] at h
  exact OpGo_of (fun p r=>rfl) rfl rfl rfl rfl (goks_of2 h.1 h.2.1) (wIdxAddr_go h.2.2)
 case index T x i=>
  simp only [wOp,zE] at h
  exact OpGo_of (fun p r=>rfl) rfl rfl rfl rfl (goks_of2 h.1 h.2.1) (wIdx_go h.2.2)
 case extract t j=>
  simp only [wOp,zE] at h
  exact OpGo_of (fun p r=>rfl) rfl rfl rfl rfl (goks_of1 h.1) (wExtract_go h.2)
 case lookup T x i ok=>
  simp only [wOp,zE] at h
  exact OpGo_of (fun p r=>rfl) rfl rfl rfl rfl (goks_of2 h.1 h.2.1) (wLookup_go h.2.2)
 case mapUpdate T m i x=>
  simp only [wOp,zE] at h
  have:=not_true h.1
  subst this
  exact OpGo_of (fun p r=>rfl) rfl rfl rfl rfl (by simp only [Op.operands];simp only [goks_cons,goks_nil,and_true];exact ⟨gokB_iff.1 h.2.1,gokB_iff.1 h.2.2.1,gokB_iff.1 h.2.2.2.1⟩) (wUpdMap_go h.2.2.2.2)
 all_goals
  simp only [wOp,zE] at h
  exact OpGo_of (fun p r=>rfl) rfl rfl rfl rfl (goksB_iff.1 h.1) (wOut_go h.2)
end
open Go
def skipOk (s:Nat→Option V):Op→Bool
 | .call { callee:=.value f,args:=_,argTypes:=_ }=>isSomeB (fnOf (evO s f))
 |_=>true
def skp (P:Program) (id:Nat) (s:S) (H:Hp) (op:Op) (k:S→V→Hp→Prop):Prop:=
 chkP (skipOk (lkB s) op) (k s (.gd false (opV P true id (lkB s) (lkB H) op .junk)) [])
def kpl (k:S→V→Hp→Prop) (s:S):V→Hp→Prop:=fun v hw=>chkP v.plain (k s v hw)
def wGd (P:Program) (Sp:SpT) (G:Nat→Option Tmp) (lnf:Bool) (id:Nat) (s:S) (H:Hp) (hint:Option Nat) (gd:Option (Nat×Bool)) (op:Op) (k:S→V→Hp→Prop):Prop:=match gd with
 |none=>wOp P Sp false lnf id (lkB s) (lkB H) hint op (k s)
 |some (j,want)=>match G j with
  |none=>False
  |some t=>match lkB s t with
   |some (.gd true (.bool b))=>match bEq b want with
    |true=>wOp P Sp true lnf id (lkB s) (lkB H) hint op (kpl k s)
    |false=>skp P id s H op k
   |some (.gd false _)=>skp P id s H op k
   |some (.bool b)=>match want with
    |true=>(b=true→wOp P Sp true lnf id (lkB ((t,.gd true (.bool true))::s)) (lkB H) hint op (kpl k ((t,.gd true (.bool true))::s)))∧(b=false→skp P id ((t,.gd true (.bool false))::s) H op k)
    |false=>(b=true→skp P id ((t,.gd true (.bool true))::s) H op k)∧(b=false→wOp P Sp true lnf id (lkB ((t,.gd true (.bool false))::s)) (lkB H) hint op (kpl k ((t,.gd true (.bool false))::s)))
   |_=>False
def notB (a:Nat):List Nat→Bool
 |[]=>true
 |b::l=>match Nat.beq a b with
  |true=>false
  |false=>notB a l
def inB (a:Nat):List Nat→Bool
 |[]=>false
 |b::l=>match Nat.beq a b with
  |true=>true
  |false=>inB a l
def disjB:List Nat→List Nat→Bool
 |[],_=>true
 |a::l,m=>match notB a m with
  |true=>disjB l m
  |false=>false
def chkB (R:List Nat) (ri wi:List Nat):List Rec→Bool
 |[]=>true
 |r::l=>match (match disjB r.wi ri with
   |true=>match disjB r.wi wi with
    |true=>disjB wi r.ri
    |false=>false
   |false=>false) with
  |true=>chkB R ri wi l
  |false=>match inB r.i R with
   |true=>chkB R ri wi l
   |false=>false
theorem notB_ok {a:Nat}:∀{l:List Nat},notB a l=true→a∉l
 |[],_=>by simp
 |b::l,h=>by
  simp only [notB] at h
  split at h
  ·cases h
  ·rename_i e
   have hne:a≠b:=fun hab=>by subst hab;rw [Nat.beq_refl] at e;cases e
   simp only [List.mem_cons,not_or]
   exact ⟨hne,notB_ok h⟩
theorem inB_ok {a:Nat}:∀{l:List Nat},inB a l=true→a∈l
 |[],h=>by cases h
 |b::l,h=>by
  simp only [inB] at h
  split at h
  ·rename_i e;rw [Nat.eq_of_beq_eq_true e];simp
  ·exact List.mem_cons_of_mem _ (inB_ok h)
theorem disjB_ok:∀{l m:List Nat},disjB l m=true→∀i∈l,i∉m
 |[],_,_,i,hi=>by cases hi
 |a::l,m,h,i,hi=>by
  simp only [disjB] at h
  split at h
  ·rename_i e
   rcases List.mem_cons.1 hi with rfl|hi
   ·exact notB_ok e
   ·exact disjB_ok h i hi
  ·cases h
theorem chkB_ok {R:List Nat} {i:Nat} {ri wi:List Nat}:∀{tr:List Rec},chkB R ri wi tr=true→∀r∈tr,noC r ⟨i,ri,wi⟩∨r.i∈R
 |[],_,r,hr=>by cases hr
 |x::l,h,r,hr=>by
  simp only [chkB] at h
  split at h
  ·rename_i e
   rcases List.mem_cons.1 hr with rfl|hr
   ·refine .inl ?_
    split at e
    ·rename_i e1
     split at e
     ·rename_i e2
      exact ⟨fun j hj=>⟨disjB_ok e1 j hj,disjB_ok e2 j hj⟩,disjB_ok e⟩
     ·cases e
    ·cases e
   ·exact chkB_ok h r hr
  ·split at h
   ·rename_i e
    rcases List.mem_cons.1 hr with rfl|hr
    ·exact .inr (inB_ok e)
    ·exact chkB_ok h r hr
   ·cases h
def dstB (N:Nat):Option Tmp→Bool
 |some t=>Nat.blt t N
 |none=>true
def putS (s:S) (d:Option Tmp) (v:V):S:=match d with
 |some t=>(t,v)::s
 |none=>s
def wReg (P:Program) (Sp:SpT) (N:Nat) (G:Nat→Option Tmp) (lnf:Bool) (R:Nat→List Nat) (hints:Nat→Option Nat):List Oper→Nat→Nat→S→Hp→List Rec→(Nat→S→Hp→Prop)→Prop
 |[],i,id,s,H,tr,K=>K id s H
 |o::l,i,id,s,H,tr,K=>match (match lnf with
  |true=>nilC P (lkB s) o
  |false=>none) with
  |some q=>q.1∧chkP (dstB N o.dst) (∀b:Bool,q.2 b→wReg P Sp N G lnf R hints l (i+1) (id+1) (putS s o.dst (.bool b)) H [] K)
  |none=>chkP (dstB N o.dst) (wGd P Sp G lnf id s H (hints i) o.guard o.op fun s v hw=>match lnf with
   |true=>wReg P Sp N G lnf R hints l (i+1) (id+1) (putS s o.dst v) (hw++H) [] K
   |false=>chkP (chkB (R i) (rids (lkB s) (lkB H) o) (wids hw) tr) (wReg P Sp N G lnf R hints l (i+1) (id+1) (putS s o.dst v) (hw++H) (⟨i,rids (lkB s) (lkB H) o,wids hw⟩::tr) K))
section
variable {P:Program} {Sp:SpT} {N:Nat} {G:Nat→Option Tmp} {id:Nat} {s0:Nat→Option V} {s:S} {H:Hp}
def Sim (s0:Nat→Option V) (s:S):Prop:=∀t,match s0 t,lkB s t with
 |some a,some b=>VEq a b
 |none,none=>True
 |_,_=>False
theorem Sim.refl:Sim (lkB s) s:=fun t=>by cases lkB s t<;>simp [VEq]
theorem evO_eq (s:Nat→Option V) (t:Tmp):evO s (.tmp t)=match s t with
  |some v=>evV v
  |none=>.junk:=by
 simp only [evO]
 cases s t with
 |none=>rfl
 |some v=>cases v<;>rfl
theorem gok_eq (s:Nat→Option V) (t:Tmp):GoL.gok s (.tmp t)=match s t with
  |some v=>gkV v=true
  |none=>True:=by
 simp only [GoL.gok]
 cases s t with
 |none=>rfl
 |some v=>cases v<;>simp [gkV]
theorem Sim.ev (h:Sim s0 s):evO s0=evO (lkB s):=by
 funext x
 cases x with
 |tmp t=>
  rw [evO_eq,evO_eq]
  have:=h t
  revert this
  cases s0 t<;>cases lkB s t<;>intro this<;>first|rfl|exact this.elim|exact this.1
 |_=>rfl
theorem Sim.gok (h:Sim s0 s):GoL.gok s0=GoL.gok (lkB s):=by
 funext x
 cases x with
 |tmp t=>
  rw [gok_eq,gok_eq]
  have:=h t
  revert this
  cases s0 t<;>cases lkB s t<;>intro this<;>first|rfl|exact this.elim|(simp only;rw [this.2])
 |_=>rfl
def gvl (v:V):Option (Bool×Bool):=match evV v with
 | .bool b=>some (gkV v,b)
 |_=>match gkV v with
  |false=>some (false,false)
  |true=>none
theorem gval_eq (s:Nat→Option V) (t:Tmp):gval s (some t)=match s t with
  |some v=>gvl v
  |none=>none:=by
 simp only [gval]
 cases s t with
 |none=>rfl
 |some v=>
  cases v<;>first|rfl|skip
  rename_i c u
  cases c<;>cases u<;>rfl
theorem Sim.gval (h:Sim s0 s) (t:Option Tmp):GoL.gval s0 t=GoL.gval (lkB s) t:=by
 cases t with
 |none=>rfl
 |some t=>
  rw [gval_eq,gval_eq]
  have:=h t
  revert this
  cases s0 t<;>cases lkB s t<;>intro this<;>first|rfl|exact this.elim|skip
  rename_i a b
  simp only [gvl]
  rw [this.1,this.2]
theorem Sim.rids (h:Sim s0 s) (Hf:Nat→Option Blk) (o:Oper):GoL.rids s0 Hf o=GoL.rids (lkB s) Hf o:=by
 unfold GoL.rids
 rw [h.ev]
theorem Sim.put (h:Sim s0 s) {d:Option Tmp} {v v':V} (hv:VEq v v'):Sim (updS s0 d v) (putS s d v'):=by
 cases d with
 |none=>exact h
 |some t=>
  intro x
  simp only [updS,putS]
  rw [lkB_cons]
  by_cases e:x=t
  ·subst e;simp only [setO_same];exact hv
  ·simp only [zV _ _ e];exact h x
theorem Sim.known (h:Sim s0 s) {t:Tmp} {b:Bool} (ht:lkB s t=some (.bool b)):Sim s0 ((t,.gd true (.bool b))::s):=by
 intro x
 rw [lkB_cons]
 by_cases e:x=t
 ·subst e
  have:=h x
  rw [ht] at this
  rw [setO_same]
  revert this
  cases s0 x<;>intro this
  ·exact this
  ·exact this.trans ⟨rfl,rfl⟩
 ·rw [zV _ _ e];exact h x
theorem Sim.op (h:Sim s0 s) (E:Nat→List V→Prop→V→Prop) (Hf:Nat→Option Blk) (g:Bool) (op:Op) (p:Prop) (r:V):
  opOk P E g id s0 Hf op p r=opOk P E g id (lkB s) Hf op p r∧opD E s0 Hf op p r=opD E (lkB s) Hf op p r∧opV P g id s0 Hf op r=opV P g id (lkB s) Hf op r∧
   opHw P g id s0 Hf op=opHw P g id (lkB s) Hf op∧opLn P g id s0 Hf op=opLn P g id (lkB s) Hf op:=by
 have h1:=h.ev
 have h2:=h.gok
 have h3:∀l,goks s0 l=goks (lkB s) l:=fun l=>by unfold goks;rw [h2]
 refine ⟨?_, ?_, ?_, ?_, ?_⟩
 ·simp only [opOk,h1,h2,h3]
 ·simp only [opD,h1]
 ·simp only [opV,h1]
 ·simp only [opHw,h1]
 ·simp only [opLn,h1]
theorem opG_mono {E:Nat→List V→Prop→V→Prop} {Hf:Nat→Option Blk} {sf:Nat→Option V} {o:Oper} {k k':V→List (Nat×Blk)→Prop→Prop} (h:opG P E N G id sf Hf o k) (hk:∀v hw ln,k v hw ln→k' v hw ln):opG P E N G id sf Hf o k':=by
 unfold opG at h ⊢
 obtain ⟨h1,h2⟩:=h
 refine ⟨h1, ?_⟩
 cases hg:o.guard with
 |none=>
  rw [hg] at h2
  rcases h2 with ⟨p',r,h0,h3,h4⟩|⟨v,hw,h3,h4⟩
  ·exact .inl ⟨p',r,h0,h3,hk _ _ _ h4⟩
  ·exact .inr ⟨v,hw,h3,hk _ _ _ h4⟩
 |some p=>
  obtain ⟨j,want⟩:=p
  rw [hg] at h2
  simp only at h2 ⊢
  cases hv:GoL.gval sf (G j) with
  |none=>rw [hv] at h2;exact h2.elim
  |some cb=>
   rw [hv] at h2
   rcases h2 with ⟨p',r,h0,h3,h4⟩|⟨v,hw,h3,h5,h4⟩
   ·exact .inl ⟨p',r,h0,h3,hk _ _ _ h4⟩
   ·exact .inr ⟨v,hw,h3,h5,hk _ _ _ h4⟩
theorem Sim.hop (h:Sim s0 s) {Hf:Nat→Option Blk} {op:Op} {v:V} {hw:List (Nat×Blk)} (hh:HOp P (lkB s) Hf id op v hw):HOp P s0 Hf id op v hw:=by
 obtain ⟨f,args,tys,rfl,hok⟩:=HOp_call hh
 have h1:=h.ev
 have h2:=h.gok
 have h3:∀l,goks s0 l=goks (lkB s) l:=fun l=>by unfold goks;rw [h2]
 obtain ⟨fid,hd,rest,hv,Hf,Hf',r,ρ,k⟩:=hok.go
 show OpH P s0 _ id f args.toList v hw
 exact ⟨fid,hd,rest,hv,Hf,Hf',r,ρ,by rw [h1,h2,h3];exact k⟩
theorem dstB_ok {d:Option Tmp} (h:dstB N d=true):dstOk N d:=by
 cases d with
 |none=>trivial
 |some t=>
  simp only [dstB] at h
  exact Nat.le_of_ble_eq_true h
theorem skp_go {op:Op} {k:S→V→Hp→Prop} (hs:Sim s0 s) (h:skp P id s H op k):∃p r,opD (E0 P) s0 (lkB H) op p r∧∃s' v',k s' v' []∧Sim s0 s'∧VEq (.gd false (opV P true id s0 (lkB H) op r)) v':=by
 unfold skp at h
 rw [zE] at h
 obtain ⟨h1,h2⟩:=h
 refine (?_:∃p,opD (E0 P) s0 (lkB H) op p .junk) |>.elim fun p hp=>⟨p,.junk,hp,s,_,h2,hs, ?_⟩
 ·cases op
  case call c=>
   obtain ⟨callee,args,tys⟩:=c
   cases callee
   case value f=>
    refine ⟨False, ?_⟩
    simp only [opD]
    rw [hs.ev]
    simp only [skipOk] at h1
    cases hf:fnOf (evO (lkB s) f) with
    |none=>rw [hf] at h1;cases h1
    |some x=>exact fun e=>e.elim
   all_goals exact ⟨True,rfl,rfl⟩
  all_goals exact ⟨True,rfl,rfl⟩
 ·rw [(hs.op (P:=P) (id:=id) (E0 P) (lkB H) true op True .junk).2.2.1]
  exact VEq.refl _
theorem wGd_go (hSp:SpOk P Sp) {lnf:Bool} {hint:Option Nat} {o:Oper} {k:S→V→Hp→Prop} (hd:dstB N o.dst=true) (hs:Sim s0 s) (h:wGd P Sp G lnf id s H hint o.guard o.op k):
  opG P (E0 P) N G id s0 (lkB H) o fun v hw ln=>(lnf=true→ln)→∃s' v',k s' v' hw∧Sim s0 s'∧VEq v v':=by
 have hrun:∀(g:Bool) (s1:S) (kk:V→Hp→Prop),Sim s0 s1→wOp P Sp g lnf id (lkB s1) (lkB H) hint o.op kk→
   (∃v hw,HOp P s0 (lkB H) id o.op v hw∧kk v hw)∨∃p r,opD (E0 P) s0 (lkB H) o.op p r∧opOk P (E0 P) g id s0 (lkB H) o.op p r∧(g=true→opHw P g id s0 (lkB H) o.op=[])∧((lnf=true→opLn P g id s0 (lkB H) o.op)→
    ∃v',kk v' (opHw P g id s0 (lkB H) o.op)∧VEq (opV P g id s0 (lkB H) o.op r) v'∧(g=true→v'=opV P g id s0 (lkB H) o.op r)):=by
  intro g s1 kk hs1 hw
  rcases wOp_go hSp hw with ⟨v,hwl,h1,h2⟩|⟨p,r,h1,h2,h3,h4⟩
  ·exact .inl ⟨v,hwl,hs1.hop h1,h2⟩
  obtain ⟨e1,e2,e3,e4,e5⟩:=hs1.op (P:=P) (id:=id) (E0 P) (lkB H) g o.op p r
  refine .inr ⟨p,r,by rw [e2];exact h1,by rw [e1];exact h2,by rw [e4];exact h3,fun hl=>?_⟩
  rw [e5] at hl
  obtain ⟨v',a1,a3,a2⟩:=h4 hl
  exact ⟨v',by rw [e4];exact a2,by rw [e3];exact a1,by rw [e3];exact a3⟩
 unfold opG
 refine ⟨dstB_ok hd, ?_⟩
 unfold wGd at h
 cases hg:o.guard with
 |none=>
  rw [hg] at h
  simp only at h ⊢
  rcases hrun false s _ hs h with ⟨v,hw,h1,h2⟩|⟨p,r,h1,h2,_,h4⟩
  ·exact .inr ⟨v,hw,h1,fun _=>⟨s,v,h2,hs,VEq.refl _⟩⟩
  ·exact .inl ⟨p,r,h1,h2,fun hl=>by obtain ⟨v',a1,a2,_⟩:=h4 hl;exact ⟨s,v',a1,hs,a2⟩⟩
 |some q=>
  obtain ⟨j,want⟩:=q
  rw [hg] at h
  simp only at h ⊢
  cases hG:G j with
  |none=>rw [hG] at h;exact h.elim
  |some t=>
   rw [hG] at h
   simp only at h
   rw [hs.gval,gval_eq]
   have run:∀(cc:Bool) (s1:S),Sim s0 s1→cc=true→wOp P Sp true lnf id (lkB s1) (lkB H) hint o.op (kpl k s1)→
     (∃p r,opD (E0 P) s0 (lkB H) o.op p r∧(cc=true→opOk P (E0 P) true id s0 (lkB H) o.op p r∧opHw P true id s0 (lkB H) o.op=[])∧
      ((lnf=true→cc=true→opLn P true id s0 (lkB H) o.op)→∃s' v',k s' v' []∧Sim s0 s'∧VEq (.gd cc (opV P true id s0 (lkB H) o.op r)) v'))∨
      ∃v hw,(cc=true→HOp P s0 (lkB H) id o.op v hw)∧(cc=false→hw=[])∧((lnf=true→True)→∃s' v',k s' v' hw∧Sim s0 s'∧VEq (.gd cc v) v'):=by
    intro cc s1 hs1 hcb hw
    subst hcb
    rcases hrun true s1 _ hs1 hw with ⟨v,hwl,hh,hk⟩|⟨p,r,h1,h2,h3,h4⟩
    ·simp only [kpl,zE] at hk
     have hp:=plain_ev hk.1
     exact .inr ⟨v,hwl,fun _=>hh,(fun e=>by cases e),fun _=>⟨s1,v,hk.2,hs1,hp.1.symm,hp.2.symm⟩⟩
    refine .inl ⟨p,r,h1,fun _=>⟨h2,h3 rfl⟩,fun hl=>?_⟩
    obtain ⟨v',a1,a2,a3⟩:=h4 fun e=>hl e rfl
    simp only [kpl,zE] at a1
    rw [h3 rfl] at a1
    have hp:=plain_ev a1.1
    refine ⟨s1,v',a1.2,hs1, ?_⟩
    rw [←a3 rfl]
    exact ⟨hp.1.symm,hp.2.symm⟩
   have skip:∀(cc:Bool) (s1:S),Sim s0 s1→cc=false→skp P id s1 H o.op k→
     (∃p r,opD (E0 P) s0 (lkB H) o.op p r∧(cc=true→opOk P (E0 P) true id s0 (lkB H) o.op p r∧opHw P true id s0 (lkB H) o.op=[])∧
      ((lnf=true→cc=true→opLn P true id s0 (lkB H) o.op)→∃s' v',k s' v' []∧Sim s0 s'∧VEq (.gd cc (opV P true id s0 (lkB H) o.op r)) v'))∨
      ∃v hw,(cc=true→HOp P s0 (lkB H) id o.op v hw)∧(cc=false→hw=[])∧((lnf=true→True)→∃s' v',k s' v' hw∧Sim s0 s'∧VEq (.gd cc v) v'):=by
    intro cc s1 hs1 hcb hw
    subst hcb
    obtain ⟨p,r,h1,h2⟩:=skp_go hs1 hw
    exact .inl ⟨p,r,h1,(fun e=>by cases e),fun _=>h2⟩
   split at h
   ·rename_i b e
    rw [e]
    simp only [gvl,evV,gkV]
    split at h
    ·rename_i hb;exact run _ s hs (by simp [bool_beq hb]) h
    ·rename_i hb
     refine skip _ s hs ?_ h
     cases b<;>cases want<;>first|rfl|cases hb
   ·rename_i u e
    rw [e]
    simp only [gvl,evV,gkV]
    cases u<;>exact skip _ s hs rfl h
   ·rename_i b e
    rw [e]
    simp only [gvl,evV,gkV]
    have hk:=hs.known e
    cases want with
    |true=>
     cases b with
     |true=>exact run _ _ hk rfl (h.1 rfl)
     |false=>exact skip _ _ hk rfl (h.2 rfl)
    |false=>
     cases b with
     |true=>exact skip _ _ hk rfl (h.1 rfl)
     |false=>exact run _ _ hk rfl (h.2 rfl)
   ·exact h.elim
theorem wReg_text (hSp:SpOk P Sp) {R:Nat→List Nat} {hints:Nat→Option Nat} {K:Nat→S→Hp→Prop}:∀(l:List Oper) (i id:Nat) (s:S) (H:Hp) (tr:List Rec) (s0:Nat→Option V),Sim s0 s→
  wReg P Sp N G true R hints l i id s H tr K→wpG P (E0 P) N G (fun id s0 H0=>∃s H,K id s H∧Sim s0 s∧H0=lkB H) l id s0 (lkB H)
 |[],i,id,s,H,tr,s0,hs,h=>⟨s,H,h,hs,rfl⟩
 |o::l,i,id,s,H,tr,s0,hs,h=>by
  simp only [wReg] at h
  have he:nilC P s0 o=nilC P (lkB s) o:=by unfold nilC;rw [hs.ev,hs.gok]
  split at h
  ·rename_i q e
   rw [zE] at h
   obtain ⟨h1,h2,h3⟩:=h
   refine .inl ⟨q,by rw [he];exact e,h1,dstB_ok h2,fun b hb=>?_⟩
   exact wReg_text hSp l (i+1) (id+1) _ _ _ _ (hs.put (VEq.refl _)) (h3 b hb)
  rw [zE] at h
  refine .inr ?_
  refine opG_mono (wGd_go hSp h.1 hs h.2) fun v hw ln hk hln=>?_
  obtain ⟨s',v',a1,a2,a3⟩:=hk fun _=>hln
  rw [over_lkB]
  exact wReg_text hSp l (i+1) (id+1) _ _ _ _ (a2.put a3) a1
theorem wReg_draw (hSp:SpOk P Sp) {R:Nat→List Nat} {hints:Nat→Option Nat} {K:Nat→S→Hp→Prop} {K1:Nat→(Nat→Option V)→(Nat→Option Blk)→Prop} (hK:∀id s H s0,K id s H→Sim s0 s→K1 id s0 (lkB H)):
  ∀(l:List Oper) (i id:Nat) (s:S) (H:Hp) (tr:List Rec) (L:Prop) (s0:Nat→Option V),Sim s0 s→
  wReg P Sp N G false R hints l i id s H tr K→wpDG P (E0 P) N G R K1 l i id s0 (lkB H) tr L
 |[],i,id,s,H,tr,L,s0,hs,h=>fun _=>hK _ _ _ _ h hs
 |o::l,i,id,s,H,tr,L,s0,hs,h=>by
  simp only [wReg,zE] at h
  refine opG_mono (wGd_go hSp h.1 hs h.2) fun v hw ln hk=>?_
  obtain ⟨s',v',⟨a0,a1⟩,a2,a3⟩:=hk fun e=>by cases e
  have er:GoL.rids s0 (lkB H) o=GoL.rids (lkB s') (lkB H) o:=a2.rids (lkB H) o
  refine ⟨?_, ?_⟩
  ·rw [er]
   exact chk_iff.2 (chkB_ok a0)
  ·rw [over_lkB,er]
   exact wReg_draw hSp hK l (i+1) (id+1) _ _ _ _ _ (a2.put a3) a1
end
def gT (ops:Array Oper):Nat→Option Tmp:=fun j=>(ops[j]?).bind (·.dst)
abbrev LsT:=Nat→Nat→S→Hp→KK→Prop
def preF (i:Option Nat) (H:Hp):Hp:=match i with
 |none=>H
 |some i=>frz (lkB H) [i]++H
def wRg (P:Program) (Sp:SpT) (N:Nat) (hints:Nat→Nat→Option Nat) (prs:Nat→List (List Nat)) (rid:Nat) (ops:Array Oper) (dr:Bool) (n:Nat) (s:S) (H:Hp) (K:Nat→S→Hp→Prop):Prop:=match dr with
 |false=>wReg P Sp N (gT ops) true (fun _=>[]) (hints rid) ops.toList 0 n s H [] K
 |true=>chkP (P.follows .mixedOrders) (chkP (drawOk ops (prs rid)) (wReg P Sp N (gT ops) false (fun i=>(prs rid).getD i []) (hints rid) ops.toList 0 n s H [] (fun _=>K (n+ops.size))))
def wC (P:Program) (Sp:SpT) (N:Nat) (hints:Nat→Nat→Option Nat) (prs:Nat→List (List Nat)) (Ls:LsT):Nat→Code→Nat→S→Hp→KK→Prop
 |b,.skip,n,s,H,K=>K .normal n s H
 |b,.seq c d,n,s,H,K=>wC P Sp N hints prs Ls b c n s H (seqK (fun n s H=>wC P Sp N hints prs Ls b d n s H K) K)
 |b,.region rid ops dr,n,s,H,K=>match hints rid 998 with
  |none=>wRg P Sp N hints prs rid ops dr n s (preF (hints rid 999) H) (K .normal)
  |some _=>chkP (shOk H) (chkP (Nat.ble 1000 n) (wRg P Sp N hints prs rid ops dr n (shS s) (shH H) (lendK n H K .normal)))
 |b,.cond x c d,n,s,H,K=>match x with
  | .tmp t=>match lkB s t with
   |some (.gd true (.bool v))=>match v with
    |true=>wC P Sp N hints prs Ls b c n s H K
    |false=>wC P Sp N hints prs Ls b d n s H K
   |some (.bool v)=>(v=true→wC P Sp N hints prs Ls b c n ((t,.gd true (.bool true))::s) H K)∧(v=false→wC P Sp N hints prs Ls b d n ((t,.gd true (.bool false))::s) H K)
   |_=>False
  | .const (.bool v)=>match v with
   |true=>wC P Sp N hints prs Ls b c n s H K
   |false=>wC P Sp N hints prs Ls b d n s H K
  |_=>False
 |b,.block id c,n,s,H,K=>wC P Sp N hints prs Ls id c n s H (blkK id K)
 |b,.loop c,n,s,H,K=>Ls b n s H K
 |b,.exit id,n,s,H,K=>K (.exit id) n s H
 |b,.scope c,n,s,H,K=>wC P Sp N hints prs Ls b c n s H (scpK K)
 |b,.label l,n,s,H,K=>K .normal n s H
 |b,.ret,n,s,H,K=>K .ret n s H
 |_,_,_,_,_,_=>False
def loopsOk (Q:Nat→Code→Prop):Nat→Code→Prop
 |b,.seq c d=>loopsOk Q b c∧loopsOk Q b d
 |b,.cond _ c d=>loopsOk Q b c∧loopsOk Q b d
 |_,.block id c=>loopsOk Q id c
 |b,.loop c=>Q b c
 |b,.scope c=>loopsOk Q b c
 |_,_=>True
theorem sim_weak {n:Nat} {s0:Nat→Option V} {s:S} {H:Nat→Option Blk} (h:Sim s0 s):WeakF n s0 H n (lkB s) H:=by
 refine ⟨fun t v hv=>?_,fun _ _ h=>h,Nat.le_refl _,fun h=>absurd h (Nat.lt_irrefl _),fun h=>absurd h (Nat.lt_irrefl _),fun h=>absurd h (Nat.lt_irrefl _)⟩
 have:=h t
 rw [hv] at this
 cases hs:s0 t with
 |none=>rw [hs] at this;exact this.elim
 |some v0=>rw [hs] at this;exact ⟨v0,rfl,this⟩
section
variable {P:Program} {Sp:SpT} {N:Nat} {hints:Nat→Nat→Option Nat} {prs:Nat→List (List Nat)} {Ls:LsT}
theorem TL_sim {c:Code} {n:Nat} {s s1:S} {H:Hp} {K:KK} (h:Sim (lkB s) s1) (h1:TL P N c n s1 H K):TL P N c n s H K:=h1.weak (sim_weak h)
theorem TL_pre (i:Option Nat) {c:Code} {n:Nat} {s:S} {H:Hp} {K:KK} (h:TL P N c n s (preF i H) K):TL P N c n s H K:=by
 cases i with
 |none=>exact h
 |some i=>exact TL_frz [i] h
theorem hE0:∀f args p r,E0 P f args p r→p→CallP P f args r:=fun _ _ _ _ h=>h
theorem wRg_go (hSp:SpOk P Sp) {rid:Nat} {ops:Array Oper} {dr:Bool} {n:Nat} {s:S} {H:Hp} {K:KK} (h:wRg P Sp N hints prs rid ops dr n s H (K .normal)):TL P N (.region rid ops dr) n s H K:=by
 refine TL_of ?_
 cases dr with
 |false=>
  refine t_region hE0 rfl rfl fun G hG=>?_
  have e:G=gT ops:=funext hG
  subst e
  have:=wReg_text (G:=gT ops) hSp ops.toList 0 n s H [] (lkB s) Sim.refl h
  refine (?_:∀(l:List Oper) (id:Nat) (s0:Nat→Option V) (H0:Nat→Option Blk),wpG P (E0 P) N (gT ops) (fun id s0 H0=>∃s H,K .normal id s H∧Sim s0 s∧H0=lkB H) l id s0 H0→wpG P (E0 P) N (gT ops) (lift K .normal) l id s0 H0) _ _ _ _ this
  intro l
  induction l with
  |nil=>
   intro id s0 H0 ⟨s,H,h1,h2,h3⟩
   subst h3
   exact ⟨id,s,H,h1,sim_weak h2⟩
  |cons o l ih=>
   intro id s0 H0 h
   rcases h with ⟨q,h1,h2,h3,h4⟩|h
   ·exact .inl ⟨q,h1,h2,h3,fun b hb=>ih _ _ _ (h4 b hb)⟩
   ·exact .inr (opG_mono h fun v hw ln hk hln=>ih _ _ _ (hk hln))
 |true=>
  simp only [wRg,zE] at h
  obtain ⟨h1,h2,h3⟩:=h
  refine t_draw (prs rid) hE0 h1 rfl rfl h2 fun G R hG hR=>?_
  have e:G=gT ops:=funext hG
  have e2:R=fun i=>(prs rid).getD i []:=funext hR
  subst e;subst e2
  refine wReg_draw hSp ?_ _ _ _ _ _ _ _ _ Sim.refl h3
  intro id s H s0 hk hs
  exact ⟨_,s,H,hk,sim_weak hs⟩
theorem wC_go (hSp:SpOk P Sp):∀(c:Code) (b n:Nat) (s:S) (H:Hp) (K:KK),loopsOk (fun b c=>∀n s H K,Ls b n s H K→TL P N (.loop c) n s H K) b c→wC P Sp N hints prs Ls b c n s H K→TL P N c n s H K:=by
 intro c
 induction c with
 |skip=>intro b n s H K hl h;exact TL_skip h
 |seq c d ihc ihd=>
  intro b n s H K hl h
  refine TL_seq ?_
  refine (ihc b n s H _ hl.1 h).mono fun e n' s' H' hk=>⟨n',s',H', ?_,WeakF.refl⟩
  cases e<;>first|exact ihd b n' s' H' K hl.2 hk|exact hk
 |region rid ops dr=>
  intro b n s H K hl h
  simp only [wC] at h
  split at h
  ·exact TL_pre (hints rid 999) (wRg_go hSp h)
  ·simp only [zE] at h
   exact TL_lend h.1 (Nat.le_of_ble_eq_true h.2.1) (wRg_go hSp h.2.2)
 |cond x c d ihc ihd=>
  intro b n s H K hl h
  cases x with
  |tmp t=>
   simp only [wC] at h
   split at h
   ·rename_i v e
    have hev:evO (lkB s) (.tmp t)=.bool v:=by rw [evO_eq,e];rfl
    have hgk:gok (lkB s) (.tmp t):=by rw [gok_eq,e];rfl
    refine TL_cond hev hgk (fun e=>?_) (fun e=>?_)<;>subst e
    ·exact ihc b n s H K hl.1 h
    ·exact ihd b n s H K hl.2 h
   ·rename_i v e
    have hev:evO (lkB s) (.tmp t)=.bool v:=by rw [evO_eq,e];rfl
    have hgk:gok (lkB s) (.tmp t):=by rw [gok_eq,e];rfl
    have hk:=(Sim.refl (s:=s)).known e
    refine TL_cond hev hgk (fun e=>?_) (fun e=>?_)<;>subst e
    ·exact TL_sim hk (ihc b n _ H K hl.1 (h.1 rfl))
    ·exact TL_sim hk (ihd b n _ H K hl.2 (h.2 rfl))
   ·exact h.elim
  |const v=>
   cases v<;>try exact h.elim
   rename_i v
   simp only [wC] at h
   refine TL_cond (t:=v) rfl trivial (fun e=>?_) (fun e=>?_)<;>subst e
   ·exact ihc b n s H K hl.1 h
   ·exact ihd b n s H K hl.2 h
  |_=>exact h.elim
 |block id c ih=>intro b n s H K hl h;exact TL_block (ih id n s H _ hl h)
 |loop c ih=>intro b n s H K hl h;exact hl n s H K h
 |exit id=>intro b n s H K hl h;exact TL_exit h
 |scope c ih=>intro b n s H K hl h;exact TL_scope (ih b n s H _ hl h)
 |label l=>intro b n s H K hl h;exact TL_label h
 |ret=>intro b n s H K hl h;exact TL_ret h
 |_=>intro b n s H K hl h;exact h.elim
def wRv (P:Program) (s:Nat→Option V) (H:Nat→Option Blk) (hint:Option Nat) (x:ResultVar) (k:V→Prop):Prop:=match x with
 | .tmp t=>chkP (gokB s (.tmp t)) (k (evO s (.tmp t)))
 | .cell a T=>chkP (gokB s (.tmp a)) (match evO s (.tmp a) with
  | .ptr id off p=>wLoad P H hint T (.ptr id off p) fun v _=>k v
  |_=>False)
def wRvs (P:Program) (s:Nat→Option V) (H:Nat→Option Blk) (hint:Option Nat):List ResultVar→(List V→Prop)→Prop
 |[],k=>k []
 |x::l,k=>wRv P s H hint x fun v=>wRvs P s H hint l fun vs=>k (v::vs)
def wFin (P:Program) (hint:Option Nat) (rs:List ResultVar) (r:V) (s:S) (H:Hp):Prop:=
 wRvs P (lkB s) (lkB H) hint rs fun vs=>match purEs (lkB H) vs with
  |some eqs=>eqsP eqs (match (pureVs (lkB H) vs).2.1 with
   |[v]=>r=v
   |l=>r=.tup l)
  |none=>False
def finK (P:Program) (hint:Option Nat) (rs:List ResultVar) (r:V):KK:=fun e n s H=>match e with
 | .normal=>wFin P hint rs r s H
 | .ret=>wFin P hint rs r s H
 |_=>False
theorem wRv_go {s:Nat→Option V} {H:Nat→Option Blk} {hint:Option Nat} {x:ResultVar} {k:V→Prop} (h:wRv P s H hint x k):(resOut P s H x).ok∧k (resOut P s H x).v:=by
 cases x with
 |tmp t=>
  simp only [wRv,zE] at h
  exact ⟨gokB_iff.1 h.1,h.2⟩
 |cell a T=>
  simp only [wRv,zE] at h
  obtain ⟨h1,h2⟩:=h
  simp only [resOut]
  split at h2
  ·rename_i id off p e
   obtain ⟨a1,a2,a3⟩:=wLoad_go (g:=false) (lnf:=false) h2
   rw [e]
   exact ⟨⟨gokB_iff.1 h1,a1⟩,a3 (fun e=>by cases e)⟩
  ·exact h2.elim
theorem wRvs_go {s:Nat→Option V} {H:Nat→Option Blk} {hint:Option Nat}:∀{l:List ResultVar} {k:List V→Prop},wRvs P s H hint l k→(∀x∈l,(resOut P s H x).ok)∧k (l.map fun x=>(resOut P s H x).v)
 |[],k,h=>⟨by simp,h⟩
 |x::l,k,h=>by
  obtain ⟨h1,h2⟩:=wRv_go h
  obtain ⟨h3,h4⟩:=wRvs_go h2
  exact ⟨by simp only [List.mem_cons,forall_eq_or_imp];exact ⟨h1,h3⟩,h4⟩
theorem pureVs_len {H:Nat→Option Blk}:∀(vs:List V),(pureVs H vs).2.1.length=vs.length
 |[]=>rfl
 |v::r=>by simp only [pureVs,List.length_cons,pureVs_len r]
theorem wFin_go {hint:Option Nat} {rs:List ResultVar} {r:V} {s:S} {H:Hp} (h:wFin P hint rs r s H):resOk P (lkB s) (lkB H) rs r:=by
 obtain ⟨h1,h2⟩:=wRvs_go h
 split at h2
 ·rename_i eqs he
  rw [eqsP_and] at h2
  obtain ⟨h3,h4⟩:=h2
  have hp:=purEs_ok _ he h3
  match rs,h1,h4,hp with
  |[x],h1,h4,hp=>
   simp only [List.map_cons,List.map_nil,pureVs] at h4 hp
   exact ⟨h1 x (by simp),hp.1,h4⟩
  |[],h1,h4,hp=>
   simp only [List.map_nil,pureVs] at h4 hp
   exact ⟨h1,hp,h4⟩
  |x::y::l,h1,h4,hp=>
   have hl:=pureVs_len (H:=lkB H) ((x::y::l).map fun x=>(resOut P (lkB s) (lkB H) x).v)
   refine ⟨h1,hp, ?_⟩
   split at h4
   ·rename_i e;rw [e] at hl;simp at hl
   ·exact h4
 ·exact h2.elim
def zL:List V→Nat→S
 |[],_=>[]
 |v::l,k=>(k,v)::zL l (k+1)
theorem initL_eq:∀(l:List V) (k:Nat),lkB (zL l k)=initS l k
 |[],k=>rfl
 |v::l,k=>by simp only [zL,initS,lkB_cons,initL_eq l,updS]
theorem call_go (hSp:SpOk P Sp) {f:Nat} {fn:Func} {c:Code} {args:List V} {r:V} {hint:Option Nat} (hf:P.funcs[f]? =some fn) (hb:fn.body=some c) (hname:(fn.name== "runtime.NumGoroutine")=false) (hN:(args.length≤fn.ntmps))
  (hn:fn.ntmps=N) (hl:loopsOk (fun b c=>∀n s H K,Ls b n s H K→TL P N (.loop c) n s H K) 0 c) (h:wC P Sp N hints prs Ls 0 c 1000 (zL args 0) [] (finK P hint fn.results.toList r)):CallP P f args r:=by
 refine call_of hf hb hname hN hn ?_
 rw [←initL_eq]
 have:=wC_go hSp c 0 1000 _ _ _ hl h
 have key:∀s' H',wFin P hint fn.results.toList r s' H'→resOk P (lkB s') (lkB H') fn.results.toList r:=fun _ _ h=>wFin_go h
 intro U I0 w0 a w I ι hr
 refine wp_mono (this U I0 w0 a w I ι (hr.weakA fun i _=>Nat.zero_le i)) fun e a' w' ⟨n',s',H',I',ι',k,r⟩=>⟨n',_,_,I',ι', ?_,r⟩
 cases e<;>first|exact key _ _ k|exact k.elim
end
open Go
def zM:SpT:=⟨fun _ _ _=>False,fun _=>none⟩
def zI (g:Nat) (body:List V→(V→Prop)→Prop) (rest:SpT):SpT:=⟨fun f args k=>match Nat.beq f g with
 |true=>body args k
 |false=>rest.c f args k,rest.h⟩
def zQ (g n:Nat) (body:HBody) (rest:SpT):SpT:=⟨rest.c,fun f=>match Nat.beq f g with
 |true=>some (n,body)
 |false=>rest.h f⟩
theorem zD {P:Program}:SpOk P zM:=⟨fun _ _ _ h=>h.elim,fun _ _ _ h=>by cases h⟩
theorem zA {P:Program} {g:Nat} {body:List V→(V→Prop)→Prop} {rest:SpT} (h:∀args k,body args k→∃r,CallP P g args r∧k r) (hr:SpOk P rest):SpOk P (zI g body rest):=by
 refine ⟨fun f args k hk=>?_,hr.h⟩
 simp only [zI] at hk
 split at hk
 ·rename_i e
  have:=Nat.eq_of_beq_eq_true e
  subst this
  exact h args k hk
 ·exact hr.c f args k hk
theorem zH {P:Program} {g n:Nat} {body:HBody} {rest:SpT} (h:HOk P g body) (hr:SpOk P rest):SpOk P (zQ g n body rest):=by
 refine ⟨hr.c,fun f m b hb=>?_⟩
 simp only [zQ] at hb
 split at hb
 ·rename_i e
  have:=Nat.eq_of_beq_eq_true e
  subst this
  cases hb
  exact h
 ·exact hr.h f m b hb
def zB:Nat→Nat→Option Nat:=fun _ _=>none
def hintOf (l:List (Nat×Nat)):Nat→Nat→Option Nat:=fun r i=>lkB l (r*1000+i)
def zO (l:List (Nat×List (List Nat))):Nat→List (List Nat):=fun r=>match lkB l r with
 |some x=>x
 |none=>[]
def noLs:LsT:=fun _ _ _ _ _=>False
def zC (fn:Func):Code:=match fn.body with
 |some c=>c
 |none=>.skip
def noLoop:Code→Bool
 | .seq c d=>match noLoop c with
  |true=>noLoop d
  |false=>false
 | .cond _ c d=>match noLoop c with
  |true=>noLoop d
  |false=>false
 | .block _ c=>noLoop c
 | .loop _=>false
 | .scope c=>noLoop c
 |_=>true
theorem zK {Q:Nat→Code→Prop}:∀{c:Code} {b:Nat},noLoop c=true→loopsOk Q b c:=by
 intro c
 induction c with
 |seq c d ihc ihd=>
  intro b h
  simp only [noLoop] at h
  split at h
  ·rename_i e;exact ⟨ihc e,ihd h⟩
  ·cases h
 |cond x c d ihc ihd=>
  intro b h
  simp only [noLoop] at h
  split at h
  ·rename_i e;exact ⟨ihc e,ihd h⟩
  ·cases h
 |block id c ih=>intro b h;exact ih h
 |loop c ih=>intro b h;cases h
 |scope c ih=>intro b h;exact ih h
 |_=>intro b h;trivial
theorem zJ {P:Program} {Sp:SpT} {hints:Nat→Nat→Option Nat} {prs:Nat→List (List Nat)} (hSp:SpOk P Sp) {f N:Nat} {fn:Func} {args:List V} {r:V} {hint:Option Nat} (hf:P.funcs[f]? =some fn) (hn:fn.ntmps=N) (hb:(fn.body.isSome&&!(fn.name== "runtime.NumGoroutine")&&Nat.ble args.length N&&noLoop (zC fn))=true)
  (h:wC P Sp N hints prs noLs 0 (zC fn) 1000 (zL args 0) [] (finK P hint fn.results.toList r)):CallP P f args r:=by
 simp only [Bool.and_eq_true,Bool.not_eq_true'] at hb
 obtain ⟨⟨⟨h1,h2⟩,h3⟩,h4⟩:=hb
 obtain ⟨c,hc⟩:=Option.isSome_iff_exists.1 h1
 have e:zC fn=c:=by simp [zC,hc]
 rw [e] at h h4
 exact call_go hSp hf hc h2 (by rw [hn];exact Nat.le_of_ble_eq_true h3) hn (zK h4) h
theorem call_loops {P:Program} {Sp:SpT} {hints:Nat→Nat→Option Nat} {prs:Nat→List (List Nat)} {Ls:LsT} (hSp:SpOk P Sp) {f N:Nat} {fn:Func} {args:List V} {r:V} {hint:Option Nat} (hf:P.funcs[f]? =some fn) (hn:fn.ntmps=N) (hb:(fn.body.isSome&&!(fn.name== "runtime.NumGoroutine")&&Nat.ble args.length N)=true)
  (hl:loopsOk (fun b c=>∀n s H K,Ls b n s H K→TL P N (.loop c) n s H K) 0 (zC fn)) (h:wC P Sp N hints prs Ls 0 (zC fn) 1000 (zL args 0) [] (finK P hint fn.results.toList r)):CallP P f args r:=by
 simp only [Bool.and_eq_true,Bool.not_eq_true'] at hb
 obtain ⟨⟨h1,h2⟩,h3⟩:=hb
 obtain ⟨c,hc⟩:=Option.isSome_iff_exists.1 h1
 have e:zC fn=c:=by simp [zC,hc]
 rw [e] at h hl
 exact call_go hSp hf hc h2 (by rw [hn];exact Nat.le_of_ble_eq_true h3) hn hl h
open Go
def proj {α:Type} (s:List (Nat×α)):List Nat→Option (List α)
 |[]=>some []
 |t::r=>match lkB s t with
  |some v=>match proj s r with
   |some vs=>some (v::vs)
   |none=>none
  |none=>none
def ltB (n:Nat):List Nat→Bool
 |[]=>true
 |i::r=>match Nat.blt i n with
  |true=>ltB n r
  |false=>false
def idsV (n:Nat):List V→Bool
 |[]=>true
 |v::r=>match ltB n v.ids with
  |true=>idsV n r
  |false=>false
def NoIds (rows:List V):Prop:=∀v∈rows,V.ids v=[]
def idsHP (n:Nat):List Blk→Prop→Prop
 |[],k=>k
 |b::r,k=>match b.arr with
  |some _=>match b.t with
   | .agg rows=>NoIds rows∧idsHP n r k
   | .own _ rows=>NoIds rows∧idsHP n r k
   |_=>False
  |none=>chkP (ltB n b.t.ids) (idsHP n r k)
def cutK (n1:Nat) (ts bs:List Nat) (Q:List V→List Blk→Prop) (n:Nat) (s:S) (H:Hp):Prop:=
 chkP (Nat.ble n1 n) (chkP (Nat.ble 1000 n1) (match proj s ts with
  |some vs=>match proj H bs with
   |some ks=>chkP (idsV n1 vs) (chkP (ltB n1 bs) (idsHP n1 ks (Q vs ks)))
   |none=>False
  |none=>False))
theorem ltB_ok {n:Nat}:∀{l:List Nat},ltB n l=true→∀i∈l,i<n
 |[],_,i,hi=>by cases hi
 |x::r,h,i,hi=>by
  simp only [ltB] at h
  split at h
  ·rename_i e
   rcases List.mem_cons.1 hi with rfl|hi
   ·exact Nat.le_of_ble_eq_true e
   ·exact ltB_ok h i hi
  ·cases h
theorem idsV_ok {n:Nat}:∀{l:List V},idsV n l=true→∀v∈l,∀i∈v.ids,i<n
 |[],_,i,hi=>by cases hi
 |x::r,h,i,hi=>by
  simp only [idsV] at h
  split at h
  ·rename_i e
   rcases List.mem_cons.1 hi with rfl|hi
   ·exact ltB_ok e
   ·exact idsV_ok h i hi
  ·cases h
theorem idss_nil:∀{rows:List V},NoIds rows→V.idss rows=[]
 |[],_=>rfl
 |v::r,h=>by
  have h1:V.ids v=[]:=h v (by simp)
  have h2:=idss_nil (rows:=r) fun u hu=>h u (List.mem_cons_of_mem _ hu)
  show V.ids v++V.idss r=[]
  rw [h1,h2];rfl
theorem idsHP_ok {n:Nat} {k:Prop}:∀{l:List Blk},idsHP n l k→k∧∀v∈l,∀i∈v.t.ids,i<n
 |[],h=>⟨h,by simp⟩
 |x::r,h=>by
  unfold idsHP at h
  split at h
  ·split at h
   ·rename_i rows e
    obtain ⟨h1,h2⟩:=h
    obtain ⟨h3,h4⟩:=idsHP_ok h2
    refine ⟨h3,fun v hv i hi=>?_⟩
    rcases List.mem_cons.1 hv with rfl|hv
    ·rw [e] at hi
     have:V.ids (.agg rows)=[]:=idss_nil h1
     rw [this] at hi;cases hi
    ·exact h4 v hv i hi
   ·rename_i T rows e
    obtain ⟨h1,h2⟩:=h
    obtain ⟨h3,h4⟩:=idsHP_ok h2
    refine ⟨h3,fun v hv i hi=>?_⟩
    rcases List.mem_cons.1 hv with rfl|hv
    ·rw [e] at hi
     have:V.ids (.own T rows)=[]:=idss_nil h1
     rw [this] at hi;cases hi
    ·exact h4 v hv i hi
   ·exact h.elim
  ·rw [zE] at h
   obtain ⟨h3,h4⟩:=idsHP_ok h.2
   refine ⟨h3,fun v hv i hi=>?_⟩
   rcases List.mem_cons.1 hv with rfl|hv
   ·exact ltB_ok h.1 i hi
   ·exact h4 v hv i hi
theorem lkB_zip_mem {α:Type}:∀{ts:List Nat} {vs:List α} {t:Nat} {v:α},lkB (ts.zip vs) t=some v→t∈ts∧v∈vs
 |[],vs,t,v,h=>by simp [lkB] at h
 |_::_,[],t,v,h=>by simp [lkB] at h
 |x::ts,y::vs,t,v,h=>by
  rw [List.zip_cons_cons,lkB_cons] at h
  by_cases e:t=x
  ·subst e;rw [setO_same] at h;cases h;exact ⟨by simp,by simp⟩
  ·rw [zV _ _ e] at h
   have:=lkB_zip_mem h
   exact ⟨List.mem_cons_of_mem _ this.1,List.mem_cons_of_mem _ this.2⟩
theorem proj_zip {α:Type} {s:List (Nat×α)}:∀{ts:List Nat} {vs:List α},proj s ts=some vs→∀t v,lkB (ts.zip vs) t=some v→lkB s t=some v
 |[],vs,h,t,v,hv=>by simp [lkB] at hv
 |x::ts,vs,h,t,v,hv=>by
  simp only [proj] at h
  split at h
  ·rename_i u hu
   split at h
   ·rename_i us hus
    cases h
    rw [List.zip_cons_cons,lkB_cons] at hv
    by_cases e:t=x
    ·subst e;rw [setO_same] at hv;cases hv;exact hu
    ·rw [zV _ _ e] at hv;exact proj_zip hus t v hv
   ·cases h
  ·cases h
theorem cutK_go {n1 n:Nat} {ts bs:List Nat} {Q:List V→List Blk→Prop} {s:S} {H:Hp} (h:cutK n1 ts bs Q n s H):∃vs ks,Q vs ks∧WeakF n (lkB s) (lkB H) n1 (lkB (ts.zip vs)) (lkB (bs.zip ks)):=by
 unfold cutK at h
 rw [zE,zE] at h
 obtain ⟨h1,h0,h2⟩:=h
 split at h2
 ·rename_i vs hv
  split at h2
  ·rename_i ks hk
   simp only [zE] at h2
   obtain ⟨h3,h5,h46⟩:=h2
   obtain ⟨h6,h4⟩:=idsHP_ok h46
   refine ⟨vs,ks,h6,fun t v h=>⟨v,proj_zip hv t v h,VEq.refl v⟩,fun i b h=>proj_zip hk i b h,Nat.le_of_ble_eq_true h1,fun _=>Nat.le_of_ble_eq_true h0,fun _ t v h i hi=>?_,fun _ i b h=>⟨?_,fun j hj=>?_⟩⟩
   ·exact idsV_ok h3 v (lkB_zip_mem h).2 i hi
   ·exact ltB_ok h5 i (lkB_zip_mem h).1
   ·exact h4 b (lkB_zip_mem h).2 j hj
  ·exact h2.elim
 ·exact h2.elim
structure EndsL where
 n0:Nat
 ts:List Nat
 bs:List Nat
 bid:Nat
 n1:Nat
 xts:List Nat
 xbs:List Nat
 rts:List Nat
 rbs:List Nat
def endK (E:EndsL) (Nx Ex Rt:List V→List Blk→Prop):KK
 | .normal,n,s,H=>cutK E.n0 E.ts E.bs Nx n s H
 | .exit j,n,s,H=>chkP (Nat.beq j E.bid) (cutK E.n1 E.xts E.xbs Ex n s H)
 | .ret,n,s,H=>cutK E.n1 E.rts E.rbs Rt n s H
 |_,_,_,_=>False
section
variable {P:Program} {Sp:SpT} {N:Nat} {hints:Nat→Nat→Option Nat} {prs:Nat→List (List Nat)} {Ls:LsT} {c:Code}
theorem zT (hSp:SpOk P Sp) (E:EndsL) {γ:Type} (tv:γ→List V) (bv:γ→List Blk) (μ:γ→Nat) (Pre:γ→Prop) (K:KK) (hl:loopsOk (fun b c=>∀n s H K,Ls b n s H K→TL P N (.loop c) n s H K) E.bid c)
  (h:∀g,Pre g→wC P Sp N hints prs Ls E.bid c E.n0 (E.ts.zip (tv g)) (E.bs.zip (bv g)) (endK E (fun vs ks=>∃g',vs=tv g'∧ks=bv g'∧μ g'<μ g∧Pre g')
   (fun vs ks=>K (.exit E.bid) E.n1 (E.xts.zip vs) (E.xbs.zip ks)) (fun vs ks=>K .ret E.n1 (E.rts.zip vs) (E.rbs.zip ks)))):
  ∀g,Pre g→TL P N (.loop c) E.n0 (E.ts.zip (tv g)) (E.bs.zip (bv g)) K:=by
 refine TL_loop E.n0 (fun g=>E.ts.zip (tv g)) (fun g=>E.bs.zip (bv g)) μ Pre (fun _=>K) fun g hg=>?_
 refine (wC_go hSp c E.bid E.n0 _ _ _ hl (h g hg)).mono fun e n s H hk=>?_
 cases e with
 |normal=>
  obtain ⟨vs,ks,⟨g',rfl,rfl,hm,hp⟩,hw⟩:=cutK_go hk
  exact ⟨n,s,H,⟨g',hp,hm,fun _ _ _ _ h=>h,hw⟩,WeakF.refl⟩
 |exit j=>
  simp only [endK,zE] at hk
  obtain ⟨h1,h2⟩:=hk
  have:=Nat.eq_of_beq_eq_true h1
  subst this
  obtain ⟨vs,ks,h3,hw⟩:=cutK_go h2
  exact ⟨_,_,_,h3,hw⟩
 |ret=>
  obtain ⟨vs,ks,h3,hw⟩:=cutK_go hk
  exact ⟨_,_,_,h3,hw⟩
 |_=>exact hk.elim
def lsAdd (b:Nat) (n0:Nat) (ts bs:List Nat) (ent:List V→List Blk→KK→Prop) (rest:LsT):LsT:=fun b' n s H K=>match Nat.beq b' b with
 |true=>cutK n0 ts bs (fun vs ks=>ent vs ks K) n s H
 |false=>rest b' n s H K
def LsOk (P:Program) (N:Nat) (n0:Nat) (ts bs:List Nat) (ent:List V→List Blk→KK→Prop) (c:Code):Prop:=
 ∀vs ks K,ent vs ks K→TL P N (.loop c) n0 (ts.zip vs) (bs.zip ks) K
theorem zU {b n0:Nat} {ts bs:List Nat} {ent:List V→List Blk→KK→Prop} {rest:LsT} (h:LsOk P N n0 ts bs ent c):∀n s H K,lsAdd b n0 ts bs ent rest b n s H K→TL P N (.loop c) n s H K:=by
 intro n s H K hk
 unfold lsAdd at hk
 rw [Nat.beq_refl] at hk
 obtain ⟨vs,ks,h1,hw⟩:=cutK_go hk
 exact (h vs ks K h1).weak hw
theorem lsAdd_miss {b b' n0:Nat} {ts bs:List Nat} {ent:List V→List Blk→KK→Prop} {rest:LsT} (hb:Nat.beq b' b=false) (h:∀n s H K,rest b' n s H K→TL P N (.loop c) n s H K):∀n s H K,lsAdd b n0 ts bs ent rest b' n s H K→TL P N (.loop c) n s H K:=by
 intro n s H K hk
 unfold lsAdd at hk
 rw [hb] at hk
 exact h n s H K hk
end
def loopsOf:Nat→Code→List (Nat×Code)
 |b,.seq c d=>loopsOf b c++loopsOf b d
 |b,.cond _ c d=>loopsOf b c++loopsOf b d
 |_,.block id c=>loopsOf id c
 |b,.loop c=>[(b,c)]
 |b,.scope c=>loopsOf b c
 |_,_=>[]
theorem zR {Q:Nat→Code→Prop}:∀{c:Code} {b:Nat},(∀p∈loopsOf b c,Q p.1 p.2)→loopsOk Q b c:=by
 intro c
 induction c with
 |seq c d ihc ihd=>intro b h;exact ⟨ihc fun p hp=>h p (List.mem_append_left _ hp),ihd fun p hp=>h p (List.mem_append_right _ hp)⟩
 |cond x c d ihc ihd=>intro b h;exact ⟨ihc fun p hp=>h p (List.mem_append_left _ hp),ihd fun p hp=>h p (List.mem_append_right _ hp)⟩
 |block id c ih=>intro b h;exact ih h
 |loop c ih=>intro b h;exact h (b,c) (by simp [loopsOf])
 |scope c ih=>intro b h;exact ih h
 |_=>intro b h;trivial
def zP (fn:Func) (i:Nat):Nat×Code:=(loopsOf 0 (zC fn)).getD i (0,.skip)
def lin (p:Nat×Code) (i:Nat):Nat×Code:=(loopsOf p.1 p.2).getD i (0,.skip)
open Go
def allBoxy:List V→Bool
 |[]=>true
 |v::r=>match v.boxy with
  |true=>allBoxy r
  |false=>false
theorem allBoxy_mem:∀{l:List V},allBoxy l=true→∀v∈l,v.boxy=true
 |[],_,v,hv=>by cases hv
 |x::r,h,v,hv=>by
  simp only [allBoxy] at h
  split at h
  ·rename_i e
   rcases List.mem_cons.1 hv with rfl|hv
   ·exact e
   ·exact allBoxy_mem h v hv
  ·cases h
def wFinH (P:Program) (hint:Option Nat) (rs:List ResultVar) (ids:List Nat) (Q:V→List Blk→Prop) (s:S) (H:Hp):Prop:=
 wRvs P (lkB s) (lkB H) hint rs fun vs=>chkP (allBoxy vs) (match proj H ids with
  |some ks=>Q (match vs with
   |[v]=>v
   |l=>.tup l) ks
  |none=>False)
def finH (P:Program) (hint:Option Nat) (rs:List ResultVar) (ids:List Nat) (Q:V→List Blk→Prop):KK:=fun e n s H=>match e with
 | .normal=>wFinH P hint rs ids Q s H
 | .ret=>wFinH P hint rs ids Q s H
 |_=>False
section
variable {P:Program} {Sp:SpT} {N:Nat} {hints:Nat→Nat→Option Nat} {prs:Nat→List (List Nat)} {Ls:LsT} {w:World} {I:Nat→Prop} {ι:Nat→Option Img} {U I0:Nat→Prop} {w0:Start} {A:Nat→Prop} {a:Act}
theorem slot1_of {H:Nat→Option Blk} {v:V} {c:Value} (hb:v.boxy=true) (h:Slot w I ι H v c):Slot1 w I ι H v c:=by
 cases v<;>first|exact h|(simp [V.boxy] at hb)
theorem retH_sound {s:Nat→Option V} {H:Nat→Option Blk} {fn:Func} (h:Rel P N U I0 w0 s H A a w I ι) (hok:∀x∈fn.results.toList,(resOut P s H x).ok) (hb:∀v∈fn.results.toList.map fun x=>(resOut P s H x).v,v.boxy=true):
  ∃cv,(results fn a.tmps).run P w=.ok cv w∧Slot w I ι H (match fn.results.toList.map fun x=>(resOut P s H x).v with
   |[v]=>v
   |l=>.tup l) cv:=by
 have hvals:∀(xs:List ResultVar),(∀x∈xs,(resOut P s H x).ok)→∃vs:List Value,xs.length=vs.length∧∀(i:Nat) (x:ResultVar) (v:Value),xs[i]? =some x→vs[i]? =some v→
   (resRun x a.tmps).run P w=.ok v w∧Slot w I ι H (resOut P s H x).v v:=by
  intro xs
  induction xs with
  |nil=>intro _;exact ⟨[],rfl,fun i x v h=>by simp at h⟩
  |cons x r ih=>
   intro hx
   obtain ⟨vs,h1,h2⟩:=ih fun y hy=>hx y (List.mem_cons_of_mem _ hy)
   obtain ⟨cv,h3,h4⟩:=res_one h x (hx x List.mem_cons_self)
   refine ⟨cv::vs,by simp [h1],fun i y v hy hv=>?_⟩
   cases i with
   |zero=>simp at hy hv;subst hy;subst hv;exact ⟨h3,h4⟩
   |succ i=>exact h2 i y v (by simpa using hy) (by simpa using hv)
 obtain ⟨vs,h1,h2⟩:=hvals _ hok
 have hrun:=run_results (P:=P) (w:=w) (a:=a) (fn:=fn) h1 (fun i x v hx hv=>(h2 i x v hx hv).1)
 refine ⟨_,hrun, ?_⟩
 generalize fn.results.toList=xs at h1 h2 hb
 match xs,vs,h1,h2,hb with
 |[x],[cv],h1,h2,hb=>simpa using (h2 0 x cv rfl rfl).2
 |[],[],h1,h2,hb=>exact ⟨fun _=>undef,by simp,fun i v hv=>by simp at hv⟩
 |x::y::l,vs,h1,h2,hb=>
  have hlen:vs.length≠1:=by rw [←h1];simp
  rw [dif_neg (by simpa using hlen)]
  show Slot0 w I ι H (.tup _) _
  refine ⟨fun i=>vs.getD i undef, ?_,fun i v hv=>?_⟩
  ·congr 1
   apply congrArg
   apply List.ext_getElem
   ·simp [←h1]
   ·intro i h3 h4
    have hv:i<vs.length:=by simpa using h3
    simp [List.getD,hv]
  ·have hv:((x::y::l).map fun x=>(resOut P s H x).v)[i]? =some v:=hv
   rw [List.getElem?_map] at hv
   obtain ⟨z,hz,rfl⟩:=Option.map_eq_some_iff.1 hv
   have hlt:i<vs.length:=by rw [←h1];exact (List.getElem?_eq_some_iff.1 hz).1
   have hvs:vs[i]? =some (vs.getD i undef):=by simp [List.getD,hlt]
   refine slot1_of (hb _ (List.mem_map.2 ⟨z,List.mem_of_getElem? hz,rfl⟩)) (h2 i z _ hz hvs).2
theorem callH_go (hSp:SpOk P Sp) {f:Nat} {fn:Func} {args:List V} {η:Hp} {ids:List Nat} {r:V} {ks:List Blk} {hint:Option Nat} (hf:P.funcs[f]? =some fn) (hn:fn.ntmps=N) (hb:(fn.body.isSome&&!(fn.name== "runtime.NumGoroutine")&&Nat.ble args.length N)=true)
  (hl:loopsOk (fun b c=>∀n s H K,Ls b n s H K→TL P N (.loop c) n s H K) 0 (zC fn))
  (h:wC P Sp N hints prs Ls 0 (zC fn) 1000 (zL args 0) η (finH P hint fn.results.toList ids fun v bs=>r=v∧ks=bs)):CallH P f args (lkB η) r (lkB (ids.zip ks)):=by
 simp only [Bool.and_eq_true,Bool.not_eq_true'] at hb
 obtain ⟨⟨h1,hname⟩,h3⟩:=hb
 obtain ⟨c,hc⟩:=Option.isSome_iff_exists.1 h1
 have e:zC fn=c:=by simp [zC,hc]
 rw [e] at h hl
 have hN:args.length≤fn.ntmps:=by rw [hn];exact Nat.le_of_ble_eq_true h3
 subst hn
 refine ⟨fun args w=>?_,fun w I ι cargs hm hfr hlen hsl=>?_⟩
 ·have hn:¬fn.name= "runtime.NumGoroutine" :=by simpa using hname
  simp [callFunc,hf,hn,hc]
 ·refine calls_of_wp hf hc ?_
  have hini:lkB (zL args 0)=fun t=>args[t]?:=by
   rw [initL_eq];funext t;rw [initS_get];simp
  have hrel:Rel P fn.ntmps (FootU w ι) I ⟨w,ι,lkB η⟩ (lkB (zL args 0)) (lkB η) (1000≤·) { tmps:=cargs.toArray++Array.replicate (fn.ntmps-cargs.toArray.size) undef,defers:=[] } w I ι:=by
   refine ⟨hm,fun t v hv=>?_,by simp;omega,rfl,hfr,fun _ _=>rfl,fun _ h=>h,Nat.le_refl _,rfl,rfl,rfl,fun id img _ h=>⟨img,h,fun _=>rfl,fun E fz rows e=>⟨E,fz,rows,e,Nat.le_refl _,fun _=>rfl⟩⟩,fun _ _=>rfl⟩
   rw [hini] at hv
   have hlt:t<cargs.length:=by rw [hlen];exact (List.getElem?_eq_some_iff.1 hv).1
   have hc:cargs[t]? =some cargs[t]:=List.getElem?_eq_getElem hlt
   have:=hsl t v _ hv hc
   have e:(cargs.toArray++Array.replicate (fn.ntmps-cargs.toArray.size) undef).getD t undef=cargs[t]:=by
    simp [Array.getD_eq_getD_getElem?,Array.getElem?_append,hlt]
   show Slot w I ι (lkB η) v ((cargs.toArray++Array.replicate (fn.ntmps-cargs.toArray.size) undef).getD t undef)
   rw [e]
   exact this
  refine wp_mono (wC_go hSp c 0 1000 _ _ _ hl h _ _ _ _ _ _ _ hrel) fun e a' w' ⟨n',s',H',I',ι',hk,hr⟩=>?_
  have hpost:wFinH P hint fn.results.toList ids (fun v bs=>r=v∧ks=bs) s' H'→a'.defers=[]∧∃v,(results fn a'.tmps).run P w'=.ok v w'∧∃cv I' ι',Ending.returned v=.returned cv∧HPost P w I ι (lkB η) r (lkB (ids.zip ks)) cv w' I' ι':=by
   intro hk
   obtain ⟨g1,g2⟩:=wRvs_go hk
   rw [zE] at g2
   obtain ⟨g2,g3⟩:=g2
   split at g3
   ·rename_i bs hbs
    obtain ⟨rfl,rfl⟩:=g3
    obtain ⟨cv,k1,k2⟩:=retH_sound hr g1 (allBoxy_mem g2)
    have hw:WeakF n' (lkB s') (lkB H') n' (lkB s') (lkB (ids.zip ks)):=⟨fun t v h=>⟨v,h,VEq.refl v⟩,fun i b h=>proj_zip hbs i b h,Nat.le_refl _,fun h=>absurd h (Nat.lt_irrefl _),fun h=>absurd h (Nat.lt_irrefl _),fun h=>absurd h (Nat.lt_irrefl _)⟩
    have hg:HGo ι' ι' (lkB H') (lkB (ids.zip ks)):=fun i m hi=>⟨m,hi,fun _=>rfl,fun E fz rows e=>⟨E,fz,rows,hw.hh _ _ e,Nat.le_refl _,fun _=>rfl⟩⟩
    have hkeep:keep I' w' w':=keep.refl w'
    have hm:=hr.m
    refine ⟨hr.df,cv,k1,cv,I',ι',rfl,⟨Slot.mono hkeep (fun _ h=>h) hg k2,⟨fun i b hb=>(hm.heap i b (hw.hh i b hb)).mono rfl (fun _ _ _ _=>rfl) hkeep (fun _ h=>h) hg rfl rfl,hm.inj,hm.img,fun i b m c h1 h2=>hm.live i b m c (hw.hh i b h1) h2,hm.bnd,hm.org,hm.new⟩,hr.ev.step hg,hr.kU,hr.ini,hr.kI,hr.siz,hr.os,hr.tape,hr.output⟩⟩
   ·exact g3.elim
  cases e<;>first|exact hpost hk|exact hk.elim
theorem ren_none (ρ:Nat→Nat):∀(v:V),v.idsB=[]→v.ren ρ=v:=by
 intro v hv
 have h0:∀n,(∀v:V,sizeOf v≤n→v.idsB=[]→v.ren ρ=v)∧(∀l:List V,sizeOf l≤n→V.idsBs l=[]→V.rens ρ l=l):=by
  intro n
  induction n with
  |zero=>exact ⟨fun v h=>by cases v<;>simp at h,fun l h=>by cases l<;>simp at h⟩
  |succ n ih=>
   refine ⟨fun v hs hv=>?_,fun l hs hl=>?_⟩
   ·cases v<;>simp only [V.idsB,V.ren] at hv ⊢ <;>first
     |(cases hv;done)
     |rfl
     |(rw [ih.2 _ (by simp at hs;omega) hv])
     |(rw [ih.1 _ (by simp at hs;omega) hv])
   ·cases l with
    |nil=>rfl
    |cons x r=>
     simp only [V.idsBs,List.append_eq_nil_iff] at hl
     simp at hs
     simp only [V.rens]
     rw [ih.1 x (by omega) hl.1,ih.2 r (by omega) hl.2]
 exact (h0 (sizeOf v)).1 v (Nat.le_refl _) hv
theorem map_none {ρ:Nat→Nat}:∀{hd:List V},(∀u∈hd,u.idsB=[])→hd=hd.map (V.ren ρ)
 |[],_=>rfl
 |v::r,h=>by rw [List.map_cons,ren_none ρ v (h v (by simp)),←map_none fun u hu=>h u (by simp [hu])]
theorem hsem_new {f:Nat} {rest:List V} {H1:Nat→Option Blk} {id m:Nat} {b:Blk} {r:V} (hb:b.arr.isSome=true) (hr:∀j∈r.idsB,j=m) (h:CallH P f rest (lkB []) r (lkB [(m,b)])):HSem P f [] rest H1 id (r.ren fun _=>id) [(id,b)]:=by
 have hl:∀i,lkB [(m,b)] i≠none→i=m:=fun i hi=>by
  rw [lkB_cons] at hi
  by_cases e:i=m
  ·exact e
  ·rw [zV _ _ e] at hi;exact absurd rfl hi
 have hmm:lkB [(m,b)] m=some b:=by rw [lkB_cons,setO_same]
 refine ⟨[],lkB [],lkB [(m,b)],r,fun _=>id,rfl,(fun u hu=>by cases hu),⟨fun i b h=>(by cases h),fun i j hi hj _=>?_,fun i b _ _=>rfl,fun i b h=>(by cases h),fun i b h=>(by cases h),fun i b' h ha=>?_,fun j hj=>?_⟩,h,rfl, ?_,fun i hi=>absurd rfl hi⟩
 ·have h1:=hl i (hi.resolve_left fun h=>h rfl)
  have h2:=hl j (hj.resolve_left fun h=>h rfl)
  rw [h1,h2]
 ·have:=hl i (by rw [h];simp)
  subst this
  rw [hmm] at h
  cases h
  rw [ha] at hb;cases hb
 ·rw [hr j hj,hmm];simp
 ·refine .inl ?_
  funext c
  by_cases e:c=id
  ·subst e
   have:=backH_hit (ρ:=fun _=>c) (H':=lkB [(m,b)]) (f:=fun i=>(lkB [(m,b)] i).map (Blk.ren fun _=>c)) (g:=fun _=>none) (i:=m) (by rw [hmm];simp) (fun j hj _=>hl j hj)
   rw [this,hmm]
   have e2:b.ren (fun _=>c)=b:=by
    unfold Blk.ren
    cases ha:b.arr with
    |none=>rw [ha] at hb;cases hb
    |some _=>rfl
   simp [look,e2]
  ·rw [yD (fun i hi h=>e h.symm)]
   simp [look,Ne.symm e]
end
open Go
section
variable {P:Program} {N:Nat} {U I0:Nat→Prop} {w0:Start} {s:Nat→Option V} {H:Nat→Option Blk} {A:Nat→Prop} {a:Act} {w:World} {I:Nat→Prop} {ι:Nat→Option Img}
theorem frz_wids:∀{l:List Nat} {i:Nat},i∈wids (frz H l)→i∈l
 |[],i,h=>by simp [frz,wids] at h
 |x::r,i,h=>by
  simp only [frz] at h
  split at h
  ·split at h
   ·exact List.mem_cons_of_mem _ (frz_wids h)
   ·simp only [wids,List.map_cons,List.mem_cons] at h
    rcases h with rfl|h
    ·exact List.mem_cons_self
    ·exact List.mem_cons_of_mem _ (frz_wids h)
  ·exact List.mem_cons_of_mem _ (frz_wids h)
theorem Rel.retree (h:Rel P N U I0 w0 s H A a w I ι) {c:Nat} {t t':V} (hc:H c=some ⟨none,false,t⟩) (ht:∀cs,Rep w I ι H t cs→Rep w I ι H t' cs):
  Rel P N U I0 w0 s (setO H c ⟨none,false,t'⟩) A a w I ι:=by
 have hne:∀i,i≠c→setO H c (⟨none,false,t'⟩:Blk) i=H i:=fun i e=>zV _ _ e
 have hcc:setO H c (⟨none,false,t'⟩:Blk) c=some ⟨none,false,t'⟩:=by simp
 have hg:HGo ι ι H (setO H c ⟨none,false,t'⟩):=fun i m hi=>⟨m,hi,fun _=>rfl,fun E fz rows e=>by
  have hic:i≠c:=fun e2=>by subst e2;rw [hcc] at e;cases e
  rw [hne i hic] at e
  exact ⟨E,fz,rows,e,Nat.le_refl _,fun _=>rfl⟩⟩
 have hk:keep I w w:=keep.refl w
 have hm:=h.m
 refine ⟨⟨fun i b hb=>?_,hm.inj,hm.img,fun i b m x h1 h2 h3=>?_,hm.bnd,hm.org,hm.new⟩,fun t v hv=>Slot.mono hk (fun _ h=>h) hg (h.sl t v hv),h.sz,h.df,h.fresh,h.kU,h.ini,h.siz,h.os,h.tape,h.output,h.ev.step hg,h.kI⟩
 ·by_cases e:i=c
  ·subst e
   rw [hcc] at hb
   cases hb
   obtain ⟨img,e1,e2,x,cs,e3,e4,e5⟩:=hm.heap i _ hc
   exact ⟨img,e1,e2,x,cs,e3,e4,Rep.mono hk (fun _ h=>h) hg (ht cs e5)⟩
  ·rw [hne i e] at hb
   exact (hm.heap i b hb).mono rfl (fun _ _ _ _=>rfl) hk (fun _ h=>h) hg rfl rfl
 ·by_cases e:i=c
  ·subst e
   rw [hcc] at h1
   cases h1
   exact hm.live i ⟨none,false,t⟩ m x hc h2 h3
  ·rw [hne i e] at h1
   exact hm.live i b m x h1 h2 h3
theorem Rel.frozen (h:Rel P N U I0 w0 s H A a w I ι) (l:List Nat):∃I1,(∀b,I b→I1 b)∧(∀i b m x,i∈l→H i=some b→ι i=some m→m.b=some x→I1 x)∧HGo ι ι H (over H (frz H l))∧Rel P N U I0 w0 s (over H (frz H l)) A a w I1 ι:=by
 obtain ⟨I1,a0,a1,a2,a3⟩:=freeze_all h.m l
 exact ⟨I1,a3.sub,a1,a3.hgo,a2,fun t v hv=>a3.slot (h.sl t v hv),h.sz,h.df,h.fresh,h.kU,fun b hb=>a3.sub b (h.ini b hb),h.siz,h.os,h.tape,h.output,h.ev.step a3.hgo,h.kI⟩
theorem Rel.pur (h:Rel P N U I0 w0 s H A a w I ι) {c:Nat} {t u:V} {p:List Nat} (hc:H c=some ⟨none,false,t⟩) (hs:t.sub p=some u) (hok:(pureV H u).ok) (hn:c∉(pureV H u).fz):
  ∃I1,Rel P N U I0 w0 s (setO (over H (frz H (pureV H u).fz)) c ⟨none,false,V.upd (pureV H u).v t p⟩) A a w I1 ι:=by
 obtain ⟨I1,hsub,hfz,hg,hr⟩:=h.frozen (pureV H u).fz
 have hc1:over H (frz H (pureV H u).fz) c=some ⟨none,false,t⟩:=by rw [over_notin fun hx=>hn (frz_wids hx)];exact hc
 obtain ⟨img,e1,e2,x,cs,e3,e4,e5⟩:=h.m.heap c _ hc
 obtain ⟨pre,mid,post,q1,q2,q3,_⟩:=e5.sub hs
 have him:Imm w I1 (pureV H u).v mid:=pure_rep h.m hsub hfz u (fun i hi=>hi) q3 hok
 refine ⟨I1, ?_⟩
 have hm1:=hr.m
 obtain ⟨img',e1',e2',x',cs',e3',e4',e5'⟩:=hm1.heap c _ hc1
 have hcs:cs'=cs:=by
  rw [e1] at e1';cases e1'
  rw [e3] at e3';cases e3'
  obtain ⟨ty,fr,g1,_⟩:=e4
  obtain ⟨ty',fr',g1',_⟩:=e4'
  rw [g1] at g1'
  cases g1'
  rfl
 subst hcs
 have hne:∀i,i≠c→setO (over H (frz H (pureV H u).fz)) c (⟨none,false,V.upd (pureV H u).v t p⟩:Blk) i=over H (frz H (pureV H u).fz) i:=fun i e=>zV _ _ e
 have hcc:setO (over H (frz H (pureV H u).fz)) c (⟨none,false,V.upd (pureV H u).v t p⟩:Blk) c=some ⟨none,false,V.upd (pureV H u).v t p⟩:=by simp
 have hg2:HGo ι ι (over H (frz H (pureV H u).fz)) (setO (over H (frz H (pureV H u).fz)) c ⟨none,false,V.upd (pureV H u).v t p⟩):=fun i m hi=>⟨m,hi,fun _=>rfl,fun E fz rows e=>by
  have hic:i≠c:=fun e2=>by subst e2;rw [hcc] at e;cases e
  rw [hne i hic] at e
  exact ⟨E,fz,rows,e,Nat.le_refl _,fun _=>rfl⟩⟩
 have hk:keep I1 w w:=keep.refl w
 obtain ⟨pre2,mid2,post2,r1,r2,r3,r4⟩:=e5'.sub hs
 have hl:pre=pre2∧mid=mid2∧post=post2:=by
  have h1:pre++(mid++post)=pre2++(mid2++post2):=by rw [←List.append_assoc,←List.append_assoc,←q1,←r1]
  obtain ⟨h2,h3⟩:=List.append_inj h1 (by rw [q2,r2])
  obtain ⟨h4,h5⟩:=List.append_inj h3 (by rw [q3.size,r3.size])
  exact ⟨h2,h4,h5⟩
 obtain ⟨rfl,rfl,rfl⟩:=hl
 refine ⟨⟨fun i b hb=>?_,hm1.inj,hm1.img,fun i b m x h1 h2 h3=>?_,hm1.bnd,hm1.org,hm1.new⟩,fun t v hv=>Slot.mono hk (fun _ h=>h) hg2 (hr.sl t v hv),hr.sz,hr.df,hr.fresh,hr.kU,hr.ini,hr.siz,hr.os,hr.tape,hr.output,hr.ev.step hg2,hr.kI⟩
 ·by_cases e:i=c
  ·subst e
   rw [hcc] at hb
   cases hb
   refine ⟨img',e1',e2',x',cs',e3',e4',Rep.mono hk (fun _ h=>h) hg2 ?_⟩
   rw [r1]
   exact r4 _ _ (.imm him)
  ·rw [hne i e] at hb
   exact (hm1.heap i b hb).mono rfl (fun _ _ _ _=>rfl) hk (fun _ h=>h) hg2 rfl rfl
 ·by_cases e:i=c
  ·subst e
   rw [hcc] at h1
   cases h1
   exact hm1.live i ⟨none,false,t⟩ m x hc1 h2 h3
  ·rw [hne i e] at h1
   exact hm1.live i b m x h1 h2 h3
theorem Rel.fresh1 {n:Nat} (hr:Rel P N U I0 w0 s H (n≤·) a w I ι) (E:Nat):
  Rel P N U I0 w0 s (setO H n ⟨some E,false,.agg []⟩) (n+1≤·) a w I (setO ι n ⟨none,0,true⟩):=by
 have hn:ι n=none:=hr.fresh n (Nat.le_refl n)
 have hι:∀i m,ι i=some m→setO ι n ⟨none,0,true⟩ i=some m:=fun i m hi=>by
  by_cases e:i=n
  ·subst e;rw [hn] at hi;cases hi
  ·rw [zV _ _ e];exact hi
 have hinv:∀i m,setO ι n ⟨none,0,true⟩ i=some m→(i=n∧m=⟨none,0,true⟩)∨ι i=some m:=fun i m hi=>by
  by_cases e:i=n
  ·subst e;simp at hi;exact .inl ⟨rfl,hi.symm⟩
  ·rw [zV _ _ e] at hi;exact .inr hi
 have hH:∀i,i≠n→setO H n (⟨some E,false,.agg []⟩:Blk) i=H i:=fun i e=>zV _ _ e
 have hHn:setO H n (⟨some E,false,.agg []⟩:Blk) n=some ⟨some E,false,.agg []⟩:=by simp
 have hg:HGo ι (setO ι n ⟨none,0,true⟩) H (setO H n ⟨some E,false,.agg []⟩):=fun i m hi=>by
  refine ⟨m,hι i m hi,fun _=>rfl,fun E' fz rows e=>?_⟩
  have hne:i≠n:=fun e=>by subst e;rw [hn] at hi;cases hi
  rw [hH i hne] at e
  exact ⟨E',fz,rows,e,Nat.le_refl _,fun _=>rfl⟩
 have hk:keep I w w:=keep.refl w
 have hm:=hr.m
 refine ⟨⟨fun i b hb=>?_,fun i j m k b h1 h2 h3 h4=>?_,fun i m b h1 h2=>?_,fun i b m c h1 h2 h3=>?_,hm.bnd,hm.org,hm.new⟩,fun t' v hv=>Slot.mono hk (fun _ h=>h) hg (hr.sl t' v hv),hr.sz,hr.df,fun i hi=>?_,hr.kU,hr.ini,hr.siz,hr.os,hr.tape,hr.output,hr.ev.step hg,hr.kI⟩
 ·by_cases e:i=n
  ·subst e
   rw [hHn] at hb
   cases hb
   exact ⟨⟨none,0,true⟩,by simp,rfl,.inl ⟨[],rfl,by simp,by simp [lenMax],rfl⟩⟩
  ·rw [hH i e] at hb
   refine (hm.heap i b hb).mono ?_ (fun _ _ _ _=>rfl) hk (fun _ h=>h) hg rfl rfl
   rw [zV _ _ e]
 ·rcases hinv i m h1 with ⟨_,rfl⟩|h1
  ·cases h3
  ·rcases hinv j k h2 with ⟨_,rfl⟩|h2
   ·cases h4
   ·exact hm.inj i j m k b h1 h2 h3 h4
 ·rcases hinv i m h1 with ⟨_,rfl⟩|h1
  ·cases h2
  ·exact hm.img i m b h1 h2
 ·rcases hinv i m h2 with ⟨_,rfl⟩|h2
  ·cases h3
  ·have hne:i≠n:=fun e=>by rw [e,hn] at h2;cases h2
   rw [hH i hne] at h1
   exact hm.live i b m c h1 h2 h3
 ·have hi:n+1≤i:=hi
  rw [zV _ _ (by omega)]
  exact hr.fresh i (by show n≤i;omega)
theorem Rel.ownF {n:Nat} (hr:Rel P N U I0 w0 s H (n≤·) a w I ι) (E:Nat) {c:Nat} {t:V} {p:List Nat} (hc:H c=some ⟨none,false,t⟩) (hs:t.sub p=some .nils):
  Rel P N U I0 w0 s (setO (setO H n ⟨some E,false,.agg []⟩) c ⟨none,false,V.upd (.sl n 0) t p⟩) (n+1≤·) a w I (setO ι n ⟨none,0,true⟩):=by
 have hcn:c≠n:=fun e=>by
  obtain ⟨img,e1,_⟩:=hr.m.heap c _ hc
  rw [e,hr.fresh n (Nat.le_refl n)] at e1;cases e1
 refine (hr.fresh1 E).retree (t:=t) (by rw [zV _ _ hcn];exact hc) fun cs h=>?_
 obtain ⟨pre,mid,post,q1,q2,q3,q4⟩:=h.sub hs
 have hmid:mid=[.slice none 0 0]:=by
  cases q3 with
  |imm h=>cases h;rfl
 rw [q1,hmid]
 refine q4 _ _ (.sl (img:=⟨none,0,true⟩) rfl (by simp) fun E' fz rows e=>?_)
 have e2:setO H n (⟨some E,false,.agg []⟩:Blk) n=some ⟨some E,false,.agg []⟩:=by simp
 rw [e2] at e
 cases e
 exact ⟨Nat.le_refl _,fun _=>rfl⟩
def wPur:List (Nat×List Nat)→Hp→(Hp→Prop)→Prop
 |[],H,K=>K H
 |(c,p)::r,H,K=>match lkB H c with
  |some ⟨none,false,t⟩=>match V.sub t p with
   |some u=>match purE (lkB H) u with
    |some eqs=>eqsP eqs (chkP (notB c (pureV (lkB H) u).fz) (wPur r ((c,⟨none,false,V.upd (pureV (lkB H) u).v t p⟩)::(frz (lkB H) (pureV (lkB H) u).fz++H)) K))
    |none=>False
   |none=>False
  |_=>False
theorem wPur_go:∀{l:List (Nat×List Nat)} {H:Hp} {K:Hp→Prop} {I:Nat→Prop},Rel P N U I0 w0 s (lkB H) A a w I ι→wPur l H K→∃H' I',K H'∧Rel P N U I0 w0 s (lkB H') A a w I' ι
 |[],H,K,I,h,hk=>⟨H,I,hk,h⟩
 |(c,p)::r,H,K,I,h,hk=>by
  simp only [wPur] at hk
  split at hk
  ·rename_i t e
   split at hk
   ·rename_i u e2
    split at hk
    ·rename_i eqs he
     rw [eqsP_and,zE] at hk
     obtain ⟨h1,h2,h3⟩:=hk
     obtain ⟨I1,hr⟩:=h.pur e e2 (purE_ok _ he h1) (notB_ok h2)
     refine wPur_go (I:=I1) ?_ h3
     rw [lkB_cons,←over_lkB]
     exact hr
    ·exact hk.elim
   ·exact hk.elim
  ·exact hk.elim
def finQ (P:Program) (pur:List (Nat×List Nat)) (hint:Option Nat) (rs:List ResultVar) (ids:List Nat) (Q:V→List Blk→Prop):KK:=fun e n s H=>match e with
 | .normal=>wPur pur H fun H=>wFinH P hint rs ids Q s H
 | .ret=>wPur pur H fun H=>wFinH P hint rs ids Q s H
 |_=>False
def ownS:Option (Nat×List Nat×Nat)→Hp→Option (Nat×Hp)
 |none,H=>some (1000,H)
 |some (c,p,E),H=>match lkB H c with
  |some ⟨none,false,t⟩=>match V.sub t p with
   |some .nils=>some (1001,(c,⟨none,false,V.upd (.sl 1000 0) t p⟩)::(1000,⟨some E,false,.agg []⟩)::H)
   |_=>none
  |_=>none
section
variable {Sp:SpT} {hints:Nat→Nat→Option Nat} {prs:Nat→List (List Nat)} {Ls:LsT}
theorem callQ_go (hSp:SpOk P Sp) {own:Option (Nat×List Nat×Nat)} {pur:List (Nat×List Nat)} {n1:Nat} {η1:Hp} {f:Nat} {fn:Func} {args:List V} {η:Hp} {ids:List Nat} {r:V} {ks:List Blk} {hint:Option Nat} (hf:P.funcs[f]? =some fn) (hn:fn.ntmps=N) (hb:(fn.body.isSome&&!(fn.name== "runtime.NumGoroutine")&&Nat.ble args.length N)=true)
  (hl:loopsOk (fun b c=>∀n s H K,Ls b n s H K→TL P N (.loop c) n s H K) 0 (zC fn)) (ho:ownS own η=some (n1,η1))
  (h:wC P Sp N hints prs Ls 0 (zC fn) n1 (zL args 0) η1 (finQ P pur hint fn.results.toList ids fun v bs=>r=v∧ks=bs)):CallH P f args (lkB η) r (lkB (ids.zip ks)):=by
 simp only [Bool.and_eq_true,Bool.not_eq_true'] at hb
 obtain ⟨⟨h1,hname⟩,h3⟩:=hb
 obtain ⟨c,hc⟩:=Option.isSome_iff_exists.1 h1
 have e:zC fn=c:=by simp [zC,hc]
 rw [e] at h hl
 have hN:args.length≤fn.ntmps:=by rw [hn];exact Nat.le_of_ble_eq_true h3
 subst hn
 refine ⟨fun args w=>?_,fun w I ι cargs hm hfr hlen hsl=>?_⟩
 ·have hn:¬fn.name= "runtime.NumGoroutine" :=by simpa using hname
  simp [callFunc,hf,hn,hc]
 ·refine calls_of_wp hf hc ?_
  have hini:lkB (zL args 0)=fun t=>args[t]?:=by
   rw [initL_eq];funext t;rw [initS_get];simp
  have hrel:Rel P fn.ntmps (FootU w ι) I ⟨w,ι,lkB η⟩ (lkB (zL args 0)) (lkB η) (1000≤·) { tmps:=cargs.toArray++Array.replicate (fn.ntmps-cargs.toArray.size) undef,defers:=[] } w I ι:=by
   refine ⟨hm,fun t v hv=>?_,by simp;omega,rfl,hfr,fun _ _=>rfl,fun _ h=>h,Nat.le_refl _,rfl,rfl,rfl,fun id img _ h=>⟨img,h,fun _=>rfl,fun E fz rows e=>⟨E,fz,rows,e,Nat.le_refl _,fun _=>rfl⟩⟩,fun _ _=>rfl⟩
   rw [hini] at hv
   have hlt:t<cargs.length:=by rw [hlen];exact (List.getElem?_eq_some_iff.1 hv).1
   have hc:cargs[t]? =some cargs[t]:=List.getElem?_eq_getElem hlt
   have:=hsl t v _ hv hc
   have e:(cargs.toArray++Array.replicate (fn.ntmps-cargs.toArray.size) undef).getD t undef=cargs[t]:=by
    simp [Array.getD_eq_getD_getElem?,Array.getElem?_append,hlt]
   show Slot w I ι (lkB η) v ((cargs.toArray++Array.replicate (fn.ntmps-cargs.toArray.size) undef).getD t undef)
   rw [e]
   exact this
  have hrel1:∃ι1,Rel P fn.ntmps (FootU w ι) I ⟨w,ι,lkB η⟩ (lkB (zL args 0)) (lkB η1) (n1≤·) { tmps:=cargs.toArray++Array.replicate (fn.ntmps-cargs.toArray.size) undef,defers:=[] } w I ι1:=by
   cases own with
   |none=>simp only [ownS,Option.some.injEq,Prod.mk.injEq] at ho;obtain ⟨rfl,rfl⟩:=ho;exact ⟨ι,hrel⟩
   |some x=>
    obtain ⟨c0,p,E⟩:=x
    simp only [ownS] at ho
    split at ho
    ·rename_i t e1
     split at ho
     ·rename_i e2
      simp only [Option.some.injEq,Prod.mk.injEq] at ho
      obtain ⟨rfl,rfl⟩:=ho
      have hx:=hrel.ownF E e1 e2
      rw [←lkB_cons,←lkB_cons] at hx
      exact ⟨_,hx⟩
     ·cases ho
    ·cases ho
  obtain ⟨ι1,hrel1⟩:=hrel1
  refine wp_mono (wC_go hSp c 0 n1 _ _ _ hl h _ _ _ _ _ _ _ hrel1) fun e a' w' ⟨n',s',H0,I0',ι',hk,hr0⟩=>?_
  have hpost:(wPur pur H0 fun H'=>wFinH P hint fn.results.toList ids (fun v bs=>r=v∧ks=bs) s' H')→a'.defers=[]∧∃v,(results fn a'.tmps).run P w'=.ok v w'∧∃cv I' ι',Ending.returned v=.returned cv∧HPost P w I ι (lkB η) r (lkB (ids.zip ks)) cv w' I' ι':=by
   intro hk
   obtain ⟨H',I',hk,hr⟩:=wPur_go hr0 hk
   obtain ⟨g1,g2⟩:=wRvs_go hk
   rw [zE] at g2
   obtain ⟨g2,g3⟩:=g2
   split at g3
   ·rename_i bs hbs
    obtain ⟨rfl,rfl⟩:=g3
    obtain ⟨cv,k1,k2⟩:=retH_sound hr g1 (allBoxy_mem g2)
    have hw:WeakF n' (lkB s') (lkB H') n' (lkB s') (lkB (ids.zip ks)):=⟨fun t v h=>⟨v,h,VEq.refl v⟩,fun i b h=>proj_zip hbs i b h,Nat.le_refl _,fun h=>absurd h (Nat.lt_irrefl _),fun h=>absurd h (Nat.lt_irrefl _),fun h=>absurd h (Nat.lt_irrefl _)⟩
    have hg:HGo ι' ι' (lkB H') (lkB (ids.zip ks)):=fun i m hi=>⟨m,hi,fun _=>rfl,fun E fz rows e=>⟨E,fz,rows,hw.hh _ _ e,Nat.le_refl _,fun _=>rfl⟩⟩
    have hkeep:keep I' w' w':=keep.refl w'
    have hm:=hr.m
    refine ⟨hr.df,cv,k1,cv,I',ι',rfl,⟨Slot.mono hkeep (fun _ h=>h) hg k2,⟨fun i b hb=>(hm.heap i b (hw.hh i b hb)).mono rfl (fun _ _ _ _=>rfl) hkeep (fun _ h=>h) hg rfl rfl,hm.inj,hm.img,fun i b m c h1 h2=>hm.live i b m c (hw.hh i b h1) h2,hm.bnd,hm.org,hm.new⟩,hr.ev.step hg,hr.kU,hr.ini,hr.kI,hr.siz,hr.os,hr.tape,hr.output⟩⟩
   ·exact g3.elim
  cases e<;>first|exact hpost hk|exact hk.elim
end
end
open Go
def lk2 (a b:Blk) (i:Nat):Option Blk:=if i=0 then some a else if i=1 then some b else none
theorem lk2_eq (a b:Blk):lkB [(0,a),(1,b)]=lk2 a b:=by
 funext i
 rw [lkB_cons,lkB_cons]
 unfold lk2 setO
 by_cases h0:i=0
 ·simp [h0]
 ·by_cases h1:i=1
  ·simp [h1]
  ·simp [h0,h1,lkB]
theorem lk2_cases {a b:Blk} {i:Nat} (h:lk2 a b i≠none):i=0∨i=1:=by
 unfold lk2 at h
 by_cases h0:i=0
 ·exact .inl h0
 ·by_cases h1:i=1
  ·exact .inr h1
  ·simp [h0,h1] at h
theorem lk2_0 (a b:Blk):lk2 a b 0=some a:=rfl
theorem lk2_1 (a b:Blk):lk2 a b 1=some b:=rfl
section
variable {P:Program}
theorem foot2 {c e E id:Nat} {t t' tc:V} {rows:List V} {fz fz':Bool} {r:V} {H1:Nat→Option Blk} {ρ:Nat→Nat} (h0:ρ 0=c) (h1:ρ 1=e) (hc:H1 c=some ⟨none,fz,tc⟩) (he:H1 e=some ⟨some E,fz',.agg rows⟩)
  (ht:t.ren ρ=tc) (i1:∀j∈t.idsB,j=1) (i2:∀j∈t'.idsB,j=1) (hr:r.idsB=[]) {b1:Blk} (hb1:b1.arr.isSome=true) {b0:Blk} (hb0:b0.t=t'):
  Foot ρ id H1 (lk2 ⟨none,fz,t⟩ ⟨some E,fz',.agg rows⟩) (lk2 b0 b1) r:=by
 have hne:c≠e:=fun e0=>by rw [e0,he] at hc;cases hc
 refine ⟨fun i b hb=>?_,fun i j hi hj e0=>?_,fun i b hb hn=>?_,fun i b hb=>?_,fun i b hb ha j hj=>?_,fun i b hb ha j hj=>?_,fun j hj=>?_⟩
 ·rcases lk2_cases (by rw [hb];simp) with rfl|rfl
  ·rw [lk2_0] at hb;cases hb
   refine ⟨?_,by omega⟩
   rw [h0,hc]
   simp [Blk.ren,ht]
  ·rw [lk2_1] at hb;cases hb
   refine ⟨?_,by omega⟩
   rw [h1,he]
   simp [Blk.ren]
 ·have h2:i=0∨i=1:=by rcases hi with h|h<;>exact lk2_cases h
  have h3:j=0∨j=1:=by rcases hj with h|h<;>exact lk2_cases h
  rcases h2 with rfl|rfl<;>rcases h3 with rfl|rfl
  ·rfl
  ·rw [h0,h1] at e0;exact absurd e0 hne
  ·rw [h0,h1] at e0;exact absurd e0.symm hne
  ·rfl
 ·rcases lk2_cases (by rw [hb];simp) with rfl|rfl
  ·rw [lk2_0] at hn;cases hn
  ·rw [lk2_1] at hn;cases hn
 ·rcases lk2_cases (by rw [hb];simp) with rfl|rfl
  ·exact ⟨_,lk2_0 _ _⟩
  ·exact ⟨_,lk2_1 _ _⟩
 ·rcases lk2_cases (by rw [hb];simp) with rfl|rfl
  ·rw [lk2_0] at hb;cases hb
   rw [i1 j hj,lk2_1];simp
  ·rw [lk2_1] at hb;cases hb;cases ha
 ·rcases lk2_cases (by rw [hb];simp) with rfl|rfl
  ·rw [lk2_0] at hb;cases hb
   rw [hb0] at hj
   rw [i2 j hj,lk2_1];simp
  ·rw [lk2_1] at hb;cases hb;rw [ha] at hb1;cases hb1
 ·rw [hr] at hj;cases hj
def ro2 (c e:Nat):Nat→Nat:=fun i=>if i=0 then c else e
theorem ro2_0 (c e:Nat):ro2 c e 0=c:=rfl
theorem ro2_1 (c e:Nat):ro2 c e 1=e:=rfl
theorem hsem_pe {f c e E id:Nat} {t t' tc tc':V} {rows rows' rest:List V} {fz:Bool} {r:V} {H1:Nat→Option Blk} (hc:H1 c=some ⟨none,false,tc⟩) (he:H1 e=some ⟨some E,false,.agg rows⟩)
  (ht:t.ren (ro2 c e)=tc) (ht':t'.ren (ro2 c e)=tc') (i1:t.idsB=[1]) (i2:t'.idsB=[1]) (hr:r.idsB=[])
  (h:CallH P f (.ptr 0 0 []::rest) (lkB [(0,⟨none,false,t⟩),(1,⟨some E,false,.agg rows⟩)]) r (lkB [(0,⟨none,false,t'⟩),(1,⟨some E,fz,.agg rows'⟩)])):
  HSem P f [.ptr c 0 []] rest H1 id r [(c,⟨none,false,tc'⟩),(e,⟨some E,fz,.agg rows'⟩)]:=by
 have hne:c≠e:=fun e0=>by rw [e0,he] at hc;cases hc
 rw [lk2_eq,lk2_eq] at h
 refine ⟨[.ptr 0 0 []],_,_,r,ro2 c e,rfl,fun u hu i hi=>?_,foot2 (ro2_0 c e) (ro2_1 c e) hc he ht (fun j hj=>by rw [i1] at hj;simpa using hj) (fun j hj=>by rw [i2] at hj;simpa using hj) hr rfl rfl,h,(ren_none _ r hr).symm,.inl ?_,fun i hi=>?_⟩
 ·simp at hu;subst hu;simp [V.idsB] at hi;subst hi;rw [lk2_0];simp
 ·funext x
  have hinj:∀(a b:Blk) (i j:Nat),lk2 a b i≠none→lk2 a b j≠none→ro2 c e j=ro2 c e i→j=i:=fun a b i j hi hj e0=>by
   rcases lk2_cases hi with rfl|rfl<;>rcases lk2_cases hj with rfl|rfl
   ·rfl
   ·exact absurd e0.symm hne
   ·exact absurd e0 hne
   ·rfl
  by_cases h1:x=c
  ·subst h1
   have:=backH_hit (ρ:=ro2 x e) (H':=lk2 ⟨none,false,t'⟩ ⟨some E,fz,.agg rows'⟩) (f:=fun i=>(lk2 ⟨none,false,t'⟩ ⟨some E,fz,.agg rows'⟩ i).map (Blk.ren (ro2 x e))) (g:=fun _=>none) (i:=0) (by rw [lk2_0];simp) (fun j hj=>hinj _ _ 0 j (by rw [lk2_0];simp) hj)
   rw [ro2_0] at this
   rw [this,lk2_0]
   simp [look,Blk.ren,ht']
  ·by_cases h2:x=e
   ·subst h2
    have:=backH_hit (ρ:=ro2 c x) (H':=lk2 ⟨none,false,t'⟩ ⟨some E,fz,.agg rows'⟩) (f:=fun i=>(lk2 ⟨none,false,t'⟩ ⟨some E,fz,.agg rows'⟩ i).map (Blk.ren (ro2 c x))) (g:=fun _=>none) (i:=1) (by rw [lk2_1];simp) (fun j hj=>hinj _ _ 1 j (by rw [lk2_1];simp) hj)
    rw [ro2_1] at this
    rw [this,lk2_1]
    simp [look,Blk.ren,hne]
   ·rw [yD (fun i hi h=>by rcases lk2_cases hi with rfl|rfl;exact h1 h.symm;exact h2 h.symm)]
    simp [look,Ne.symm h1,Ne.symm h2]
 ·rcases lk2_cases hi with rfl|rfl
  ·exact ⟨_,List.mem_singleton.2 rfl,.inl (by simp [V.idsB,ro2_0])⟩
  ·refine ⟨_,List.mem_singleton.2 rfl,.inr ⟨c,by simp [V.idsB],false,tc,hc, ?_⟩⟩
   rw [←ht,idsB_ren,i1]
   simp [ro2_1]
theorem hsem_pe_ro {f c e E id:Nat} {t tc:V} {rows rest:List V} {fz fz':Bool} {r:V} {H1:Nat→Option Blk} (hc:H1 c=some ⟨none,fz,tc⟩) (he:H1 e=some ⟨some E,fz',.agg rows⟩)
  (ht:t.ren (ro2 c e)=tc) (i1:t.idsB=[1]) (hr:r.idsB=[])
  (h:CallH P f (.ptr 0 0 []::rest) (lkB [(0,⟨none,fz,t⟩),(1,⟨some E,fz',.agg rows⟩)]) r (lkB [(0,⟨none,fz,t⟩),(1,⟨some E,fz',.agg rows⟩)])):
  HSem P f [.ptr c 0 []] rest H1 id r []:=by
 rw [lk2_eq] at h
 refine ⟨[.ptr 0 0 []],_,_,r,ro2 c e,rfl,fun u hu i hi=>?_,foot2 (ro2_0 c e) (ro2_1 c e) hc he ht (fun j hj=>by rw [i1] at hj;simpa using hj) (fun j hj=>by rw [i1] at hj;simpa using hj) hr rfl rfl,h,(ren_none _ r hr).symm,.inr ⟨rfl,rfl⟩,fun i hi=>?_⟩
 ·simp at hu;subst hu;simp [V.idsB] at hi;subst hi;rw [lk2_0];simp
 ·rcases lk2_cases hi with rfl|rfl
  ·exact ⟨_,List.mem_singleton.2 rfl,.inl (by simp [V.idsB,ro2_0])⟩
  ·refine ⟨_,List.mem_singleton.2 rfl,.inr ⟨c,by simp [V.idsB],fz,tc,hc, ?_⟩⟩
   rw [←ht,idsB_ren,i1]
   simp [ro2_1]
theorem hsem_pn {f c m id:Nat} {t t' tc tc':V} {rest:List V} {b':Blk} {r:V} {H1:Nat→Option Blk} (hm:m≠0) (hci:c≠id) (hb':b'.arr.isSome=true) (hc:H1 c=some ⟨none,false,tc⟩)
  (ht:t.ren (ro2 c id)=tc) (ht':t'.ren (ro2 c id)=tc') (i1:t.idsB=[]) (i2:∀j∈t'.idsB,j=m) (hr:r.idsB=[])
  (h:CallH P f (.ptr 0 0 []::rest) (lkB [(0,⟨none,false,t⟩)]) r (lkB [(0,⟨none,false,t'⟩),(m,b')])):
  HSem P f [.ptr c 0 []] rest H1 id r [(c,⟨none,false,tc'⟩),(id,b')]:=by
 have l1:∀(b:Blk) i,lkB [(0,b)] i≠none→i=0:=fun b i hi=>by
  rw [lkB_cons] at hi
  by_cases e:i=0
  ·exact e
  ·rw [zV _ _ e] at hi;exact absurd rfl hi
 have l10:∀b:Blk,lkB [(0,b)] 0=some b:=fun b=>by rw [lkB_cons,setO_same]
 have l2:∀(a b:Blk) i,lkB [(0,a),(m,b)] i≠none→i=0∨i=m:=fun a b i hi=>by
  rw [lkB_cons,lkB_cons] at hi
  by_cases e:i=0
  ·exact .inl e
  ·rw [zV _ _ e] at hi
   by_cases e2:i=m
   ·exact .inr e2
   ·rw [zV _ _ e2] at hi;exact absurd rfl hi
 have l20:∀a b:Blk,lkB [(0,a),(m,b)] 0=some a:=fun a b=>by rw [lkB_cons,setO_same]
 have l21:∀a b:Blk,lkB [(0,a),(m,b)] m=some b:=fun a b=>by rw [lkB_cons,zV _ _ hm,lkB_cons,setO_same]
 have r0:ro2 c id 0=c:=rfl
 have rm:ro2 c id m=id:=by unfold ro2;rw [if_neg hm]
 have hinj:∀i j,(i=0∨i=m)→(j=0∨j=m)→ro2 c id i=ro2 c id j→i=j:=fun i j hi hj e0=>by
  rcases hi with rfl|rfl<;>rcases hj with rfl|rfl
  ·rfl
  ·rw [r0,rm] at e0;exact absurd e0 hci
  ·rw [r0,rm] at e0;exact absurd e0.symm hci
  ·rfl
 refine ⟨[.ptr 0 0 []],_,_,r,ro2 c id,rfl,fun u hu i hi=>?_,⟨fun i b hb=>?_,fun i j hi hj e0=>hinj i j ?_ ?_ e0,fun i b hb hn=>?_,fun i b hb=>?_,fun i b hb ha j hj=>?_,fun i b hb ha j hj=>?_,fun j hj=>?_⟩,h,(ren_none _ r hr).symm,.inl ?_,fun i hi=>?_⟩
 ·simp at hu;subst hu;simp [V.idsB] at hi;subst hi;rw [l10];simp
 ·have:=l1 _ i (by rw [hb];simp);subst this
  rw [l10] at hb;cases hb
  refine ⟨?_,by omega⟩
  rw [r0,hc]
  simp [Blk.ren,ht]
 ·rcases hi with h|h
  ·exact .inl (l1 _ i h)
  ·exact l2 _ _ i h
 ·rcases hj with h|h
  ·exact .inl (l1 _ j h)
  ·exact l2 _ _ j h
 ·rcases l2 _ _ i (by rw [hb];simp) with rfl|rfl
  ·rw [l10] at hn;cases hn
  ·exact rm
 ·have:=l1 _ i (by rw [hb];simp);subst this
  exact ⟨_,l20 _ _⟩
 ·have:=l1 _ i (by rw [hb];simp);subst this
  rw [l10] at hb;cases hb
  rw [i1] at hj;cases hj
 ·rcases l2 _ _ i (by rw [hb];simp) with rfl|rfl
  ·rw [l20] at hb;cases hb
   rw [i2 j hj,l21];simp
  ·rw [l21] at hb;cases hb;rw [ha] at hb';cases hb'
 ·rw [hr] at hj;cases hj
 ·funext x
  by_cases h1:x=c
  ·subst h1
   have:=backH_hit (ρ:=ro2 x id) (H':=lkB [(0,⟨none,false,t'⟩),(m,b')]) (f:=fun i=>(lkB [(0,⟨none,false,t'⟩),(m,b')] i).map (Blk.ren (ro2 x id))) (g:=fun _=>none) (i:=0) (by rw [l20];simp) (fun j hj e0=>hinj j 0 (l2 _ _ j hj) (.inl rfl) e0)
   rw [r0] at this
   rw [this,l20]
   simp [look,Blk.ren,ht']
  ·by_cases h2:x=id
   ·subst h2
    have:=backH_hit (ρ:=ro2 c x) (H':=lkB [(0,⟨none,false,t'⟩),(m,b')]) (f:=fun i=>(lkB [(0,⟨none,false,t'⟩),(m,b')] i).map (Blk.ren (ro2 c x))) (g:=fun _=>none) (i:=m) (by rw [l21];simp) (fun j hj e0=>hinj j m (l2 _ _ j hj) (.inr rfl) e0)
    rw [rm] at this
    rw [this,l21]
    have e2:b'.ren (ro2 c x)=b':=by
     unfold Blk.ren
     cases ha:b'.arr with
     |none=>rw [ha] at hb';cases hb'
     |some _=>rfl
    simp [look,hci,e2]
   ·rw [yD (fun i hi h3=>by
     rcases l2 _ _ i hi with h4|h4
     ·rw [h4,r0] at h3;exact h1 h3.symm
     ·rw [h4,rm] at h3;exact h2 h3.symm)]
    simp [look,Ne.symm h1,Ne.symm h2]
 ·have:=l1 _ i hi;subst this
  exact ⟨_,List.mem_singleton.2 rfl,.inl (by simp [V.idsB,r0])⟩
def lk3 (a b d:Blk) (i:Nat):Option Blk:=if i=0 then some a else if i=1 then some b else if i=2 then some d else none
theorem lk3_eq (a b d:Blk):lkB [(0,a),(1,b),(2,d)]=lk3 a b d:=by
 funext i
 rw [lkB_cons,lkB_cons,lkB_cons]
 unfold lk3 setO
 by_cases h0:i=0
 ·simp [h0]
 ·by_cases h1:i=1
  ·simp [h1]
  ·by_cases h2:i=2
   ·simp [h2]
   ·simp [h0,h1,h2,lkB]
theorem lk3_cases {a b d:Blk} {i:Nat} (h:lk3 a b d i≠none):i=0∨i=1∨i=2:=by
 unfold lk3 at h
 by_cases h0:i=0
 ·exact .inl h0
 ·by_cases h1:i=1
  ·exact .inr (.inl h1)
  ·by_cases h2:i=2
   ·exact .inr (.inr h2)
   ·simp [h0,h1,h2] at h
theorem lk3_0 (a b d:Blk):lk3 a b d 0=some a:=rfl
theorem lk3_1 (a b d:Blk):lk3 a b d 1=some b:=rfl
theorem lk3_2 (a b d:Blk):lk3 a b d 2=some d:=rfl
def ro3 (c e y:Nat):Nat→Nat:=fun i=>if i=0 then c else if i=1 then e else y
theorem ro3_0 (c e y:Nat):ro3 c e y 0=c:=rfl
theorem ro3_1 (c e y:Nat):ro3 c e y 1=e:=rfl
theorem ro3_2 (c e y:Nat):ro3 c e y 2=y:=rfl
theorem hsem_pey {f c e y E F id:Nat} {t t' tc tc':V} {rows rows' yr yr' rest:List V} {r:V} {H1:Nat→Option Blk} (hey:e≠y) (hc:H1 c=some ⟨none,false,tc⟩) (he:H1 e=some ⟨some E,false,.agg rows⟩) (hy:H1 y=some ⟨some F,false,.agg yr⟩)
  (ht:t.ren (ro3 c e y)=tc) (ht':t'.ren (ro3 c e y)=tc') (i0:e∈tc.idsB) (i0':y∈tc.idsB) (i1:∀j∈t.idsB,j=1∨j=2) (i2:∀j∈t'.idsB,j=1∨j=2) (hr:r.idsB=[])
  (h:CallH P f (.ptr 0 0 []::rest) (lkB [(0,⟨none,false,t⟩),(1,⟨some E,false,.agg rows⟩),(2,⟨some F,false,.agg yr⟩)]) r (lkB [(0,⟨none,false,t'⟩),(1,⟨some E,false,.agg rows'⟩),(2,⟨some F,false,.agg yr'⟩)])):
  HSem P f [.ptr c 0 []] rest H1 id r [(c,⟨none,false,tc'⟩),(e,⟨some E,false,.agg rows'⟩),(y,⟨some F,false,.agg yr'⟩)]:=by
 have hne:c≠e:=fun e0=>by rw [e0,he] at hc;cases hc
 have hny:c≠y:=fun e0=>by rw [e0,hy] at hc;cases hc
 rw [lk3_eq,lk3_eq] at h
 have hinj:∀i j,(i=0∨i=1∨i=2)→(j=0∨j=1∨j=2)→ro3 c e y i=ro3 c e y j→i=j:=fun i j hi hj e0=>by
  rcases hi with rfl|rfl|rfl<;>rcases hj with rfl|rfl|rfl<;>simp only [ro3_0,ro3_1,ro3_2] at e0<;>first
   |rfl
   |exact absurd e0 hne
   |exact absurd e0 hny
   |exact absurd e0 hey
   |exact absurd e0.symm hne
   |exact absurd e0.symm hny
   |exact absurd e0.symm hey
 refine ⟨[.ptr 0 0 []],_,_,r,ro3 c e y,rfl,fun u hu i hi=>?_,⟨fun i b hb=>?_,fun i j hi hj e0=>?_,fun i b hb hn=>?_,fun i b hb=>?_,fun i b hb ha j hj=>?_,fun i b hb ha j hj=>?_,fun j hj=>?_⟩,h,(ren_none _ r hr).symm,.inl ?_,fun i hi=>?_⟩
 ·simp at hu;subst hu;simp [V.idsB] at hi;subst hi;rw [lk3_0];simp
 ·rcases lk3_cases (by rw [hb];simp) with rfl|rfl|rfl
  ·rw [lk3_0] at hb;cases hb
   exact ⟨by rw [ro3_0,hc];simp [Blk.ren,ht],by omega⟩
  ·rw [lk3_1] at hb;cases hb
   exact ⟨by rw [ro3_1,he];simp [Blk.ren],by omega⟩
  ·rw [lk3_2] at hb;cases hb
   exact ⟨by rw [ro3_2,hy];simp [Blk.ren],by omega⟩
 ·exact hinj i j (by rcases hi with h|h<;>exact lk3_cases h) (by rcases hj with h|h<;>exact lk3_cases h) e0
 ·rcases lk3_cases (by rw [hb];simp) with rfl|rfl|rfl
  ·rw [lk3_0] at hn;cases hn
  ·rw [lk3_1] at hn;cases hn
  ·rw [lk3_2] at hn;cases hn
 ·rcases lk3_cases (by rw [hb];simp) with rfl|rfl|rfl
  ·exact ⟨_,lk3_0 _ _ _⟩
  ·exact ⟨_,lk3_1 _ _ _⟩
  ·exact ⟨_,lk3_2 _ _ _⟩
 ·rcases lk3_cases (by rw [hb];simp) with rfl|rfl|rfl
  ·rw [lk3_0] at hb;cases hb
   rcases i1 j hj with rfl|rfl
   ·rw [lk3_1];simp
   ·rw [lk3_2];simp
  ·rw [lk3_1] at hb;cases hb;cases ha
  ·rw [lk3_2] at hb;cases hb;cases ha
 ·rcases lk3_cases (by rw [hb];simp) with rfl|rfl|rfl
  ·rw [lk3_0] at hb;cases hb
   rcases i2 j hj with rfl|rfl
   ·rw [lk3_1];simp
   ·rw [lk3_2];simp
  ·rw [lk3_1] at hb;cases hb;cases ha
  ·rw [lk3_2] at hb;cases hb;cases ha
 ·rw [hr] at hj;cases hj
 ·funext x
  have hit:∀i b,lk3 ⟨none,false,t'⟩ ⟨some E,false,.agg rows'⟩ ⟨some F,false,.agg yr'⟩ i=some b→backH (ρ:=ro3 c e y) (lk3 ⟨none,false,t'⟩ ⟨some E,false,.agg rows'⟩ ⟨some F,false,.agg yr'⟩) (fun i=>(lk3 ⟨none,false,t'⟩ ⟨some E,false,.agg rows'⟩ ⟨some F,false,.agg yr'⟩ i).map (Blk.ren (ro3 c e y))) (fun _=>none) (ro3 c e y i)=some (b.ren (ro3 c e y)):=fun i b hb=>by
   rw [backH_hit (i:=i) (by rw [hb];simp) (fun j hj e0=>hinj j i (lk3_cases hj) (lk3_cases (by rw [hb];simp)) e0),hb];rfl
  by_cases h1:x=c
  ·subst h1
   have:=hit 0 _ (lk3_0 _ _ _)
   rw [ro3_0] at this
   rw [this]
   simp [look,Blk.ren,ht']
  ·by_cases h2:x=e
   ·subst h2
    have:=hit 1 _ (lk3_1 _ _ _)
    rw [ro3_1] at this
    rw [this]
    simp [look,Blk.ren,hne]
   ·by_cases h3:x=y
    ·subst h3
     have:=hit 2 _ (lk3_2 _ _ _)
     rw [ro3_2] at this
     rw [this]
     simp [look,Blk.ren,hny,hey]
    ·rw [yD (fun i hi h=>by
      rcases lk3_cases hi with h4|h4|h4
      ·rw [h4,ro3_0] at h;exact h1 h.symm
      ·rw [h4,ro3_1] at h;exact h2 h.symm
      ·rw [h4,ro3_2] at h;exact h3 h.symm)]
     simp [look,Ne.symm h1,Ne.symm h2,Ne.symm h3]
 ·rcases lk3_cases hi with rfl|rfl|rfl
  ·exact ⟨_,List.mem_singleton.2 rfl,.inl (by simp [V.idsB,ro3_0])⟩
  ·exact ⟨_,List.mem_singleton.2 rfl,.inr ⟨c,by simp [V.idsB],false,tc,hc,i0⟩⟩
  ·exact ⟨_,List.mem_singleton.2 rfl,.inr ⟨c,by simp [V.idsB],false,tc,hc,i0'⟩⟩
theorem hsem_pey_ro {f c e y E F id:Nat} {t tc:V} {rows yr rest:List V} {z0 z1 z2:Bool} {r:V} {H1:Nat→Option Blk} (hey:e≠y) (hc:H1 c=some ⟨none,z0,tc⟩) (he:H1 e=some ⟨some E,z1,.agg rows⟩) (hy:H1 y=some ⟨some F,z2,.agg yr⟩)
  (ht:t.ren (ro3 c e y)=tc) (i0:e∈tc.idsB) (i0':y∈tc.idsB) (i1:∀j∈t.idsB,j=1∨j=2) (hr:r.idsB=[])
  (h:CallH P f (.ptr 0 0 []::rest) (lkB [(0,⟨none,z0,t⟩),(1,⟨some E,z1,.agg rows⟩),(2,⟨some F,z2,.agg yr⟩)]) r (lkB [(0,⟨none,z0,t⟩),(1,⟨some E,z1,.agg rows⟩),(2,⟨some F,z2,.agg yr⟩)])):
  HSem P f [.ptr c 0 []] rest H1 id r []:=by
 have hne:c≠e:=fun e0=>by rw [e0,he] at hc;cases hc
 have hny:c≠y:=fun e0=>by rw [e0,hy] at hc;cases hc
 rw [lk3_eq] at h
 have hinj:∀i j,(i=0∨i=1∨i=2)→(j=0∨j=1∨j=2)→ro3 c e y i=ro3 c e y j→i=j:=fun i j hi hj e0=>by
  rcases hi with rfl|rfl|rfl<;>rcases hj with rfl|rfl|rfl<;>simp only [ro3_0,ro3_1,ro3_2] at e0<;>first
   |rfl
   |exact absurd e0 hne
   |exact absurd e0 hny
   |exact absurd e0 hey
   |exact absurd e0.symm hne
   |exact absurd e0.symm hny
   |exact absurd e0.symm hey
 refine ⟨[.ptr 0 0 []],_,_,r,ro3 c e y,rfl,fun u hu i hi=>?_,⟨fun i b hb=>?_,fun i j hi hj e0=>?_,fun i b hb hn=>?_,fun i b hb=>?_,fun i b hb ha j hj=>?_,fun i b hb ha j hj=>?_,fun j hj=>?_⟩,h,(ren_none _ r hr).symm,.inr ⟨rfl,rfl⟩,fun i hi=>?_⟩
 ·simp at hu;subst hu;simp [V.idsB] at hi;subst hi;rw [lk3_0];simp
 ·rcases lk3_cases (by rw [hb];simp) with rfl|rfl|rfl
  ·rw [lk3_0] at hb;cases hb
   exact ⟨by rw [ro3_0,hc];simp [Blk.ren,ht],by omega⟩
  ·rw [lk3_1] at hb;cases hb
   exact ⟨by rw [ro3_1,he];simp [Blk.ren],by omega⟩
  ·rw [lk3_2] at hb;cases hb
   exact ⟨by rw [ro3_2,hy];simp [Blk.ren],by omega⟩
 ·exact hinj i j (by rcases hi with h|h<;>exact lk3_cases h) (by rcases hj with h|h<;>exact lk3_cases h) e0
 ·rcases lk3_cases (by rw [hb];simp) with rfl|rfl|rfl
  ·rw [lk3_0] at hn;cases hn
  ·rw [lk3_1] at hn;cases hn
  ·rw [lk3_2] at hn;cases hn
 ·rcases lk3_cases (by rw [hb];simp) with rfl|rfl|rfl
  ·exact ⟨_,lk3_0 _ _ _⟩
  ·exact ⟨_,lk3_1 _ _ _⟩
  ·exact ⟨_,lk3_2 _ _ _⟩
 ·rcases lk3_cases (by rw [hb];simp) with rfl|rfl|rfl
  ·rw [lk3_0] at hb;cases hb
   rcases i1 j hj with rfl|rfl
   ·rw [lk3_1];simp
   ·rw [lk3_2];simp
  ·rw [lk3_1] at hb;cases hb;cases ha
  ·rw [lk3_2] at hb;cases hb;cases ha
 ·rcases lk3_cases (by rw [hb];simp) with rfl|rfl|rfl
  ·rw [lk3_0] at hb;cases hb
   rcases i1 j hj with rfl|rfl
   ·rw [lk3_1];simp
   ·rw [lk3_2];simp
  ·rw [lk3_1] at hb;cases hb;cases ha
  ·rw [lk3_2] at hb;cases hb;cases ha
 ·rw [hr] at hj;cases hj
 ·rcases lk3_cases hi with rfl|rfl|rfl
  ·exact ⟨_,List.mem_singleton.2 rfl,.inl (by simp [V.idsB,ro3_0])⟩
  ·exact ⟨_,List.mem_singleton.2 rfl,.inr ⟨c,by simp [V.idsB],z0,tc,hc,i0⟩⟩
  ·exact ⟨_,List.mem_singleton.2 rfl,.inr ⟨c,by simp [V.idsB],z0,tc,hc,i0'⟩⟩
end
open Go
def addU (x:Nat):List Nat→List Nat
 |[]=>[x]
 |y::r=>match Nat.beq x y with
  |true=>y::r
  |false=>y::addU x r
def addAll:List Nat→List Nat→List Nat
 |[],s=>s
 |x::r,s=>addAll r (addU x s)
def closeP (acc:List (List Nat)):List Nat→List Nat→List Nat
 |[],s=>s
 |e::r,s=>closeP acc r (addAll (acc.getD e []) (addU e s))
def bindsL:List Edge→List Nat
 |[]=>[]
 |e::r=>match Region.binds .any e with
  |true=>e.on::bindsL r
  |false=>bindsL r
def prsC:List Oper→List (List Nat)→List (List Nat)
 |[],acc=>acc
 |o::r,acc=>prsC r (acc++[closeP acc (bindsL o.after.toList) []])
def drsC:Code→List (Nat×List (List Nat))
 | .seq c d=>drsC c++drsC d
 | .region rid ops dr=>match dr with
  |true=>[(rid,prsC ops.toList [])]
  |false=>[]
 | .cond _ c d=>drsC c++drsC d
 | .block _ c=>drsC c
 | .scope c=>drsC c
 | .loop c=>drsC c
 |_=>[]
def zN (fn:Func):Nat→List (List Nat):=zO (drsC (zC fn))
def keysL (L:Hp):List Nat:=L.map (·.1)
theorem lkB_key {L:Hp} {i:Nat} (h:lkB L i≠none):i∈keysL L:=by
 induction L with
 |nil=>exact absurd rfl h
 |cons p r ih=>
  obtain ⟨k,b⟩:=p
  rw [lkB_cons] at h
  by_cases e:i=k
  ·subst e;exact List.mem_cons_self
  ·rw [zV _ _ e] at h;exact List.mem_cons_of_mem _ (ih h)
theorem lkB_mem {L:Hp} {i:Nat} {b:Blk} (h:lkB L i=some b):(i,b)∈L:=by
 induction L with
 |nil=>cases h
 |cons p r ih=>
  obtain ⟨k,c⟩:=p
  rw [lkB_cons] at h
  by_cases e:i=k
  ·subst e;rw [setO_same] at h;cases h;exact List.mem_cons_self
  ·rw [zV _ _ e] at h;exact List.mem_cons_of_mem _ (ih h)
theorem key_lkB {L:Hp} {i:Nat} (h:i∈keysL L):lkB L i≠none:=by
 induction L with
 |nil=>cases h
 |cons p r ih=>
  obtain ⟨k,b⟩:=p
  rw [lkB_cons]
  by_cases e:i=k
  ·subst e;rw [setO_same];simp
  ·rw [zV _ _ e]
   rcases List.mem_cons.1 h with h|h
   ·exact absurd h e
   ·exact ih h
theorem look_ren {ρ:Nat→Nat}:∀{L:Hp},(∀i∈keysL L,∀j∈keysL L,ρ i=ρ j→i=j)→
  (∀i∈keysL L,look (L.map fun p=>(ρ p.1,p.2.ren ρ)) (ρ i)=(lkB L i).map (Blk.ren ρ))∧∀x,(∀i∈keysL L,ρ i≠x)→look (L.map fun p=>(ρ p.1,p.2.ren ρ)) x=none
 |[],_=>⟨(fun i h=>by cases h),fun _ _=>rfl⟩
 |(k,b)::r,h=>by
  obtain ⟨i1,i2⟩:=look_ren (L:=r) (fun i hi j hj e=>h i (List.mem_cons_of_mem _ hi) j (List.mem_cons_of_mem _ hj) e)
  refine ⟨fun i hi=>?_,fun x hx=>?_⟩
  ·rw [lkB_cons]
   simp only [List.map_cons,look]
   by_cases e:i=k
   ·subst e;rw [if_pos rfl,setO_same];rfl
   ·rw [if_neg (fun e'=>e (h i hi k List.mem_cons_self e'.symm)),zV _ _ e]
    rcases List.mem_cons.1 hi with hi|hi
    ·exact absurd hi e
    ·exact i1 i hi
  ·simp only [List.map_cons,look]
   rw [if_neg (hx k List.mem_cons_self)]
   exact i2 x (fun i hi=>hx i (List.mem_cons_of_mem _ hi))
theorem hsem_fin {P:Program} {f id:Nat} {hv rest:List V} {L L':Hp} {r:V} {ρ:Nat→Nat} {H1:Nat→Option Blk}
  (old:∀p∈L,p.1<1000∧H1 (ρ p.1)=some (p.2.ren ρ)) (inj:∀i∈keysL L',∀j∈keysL L',ρ i=ρ j→i=j) (sub:∀i∈keysL L,i∈keysL L') (nu:∀i∈keysL L',i∉keysL L→ρ i=id)
  (hh:∀u∈hv,∀i∈u.idsB,i∈keysL L) (ids:∀p∈L,p.2.arr=none→∀j∈p.2.t.idsB,j∈keysL L) (ids':∀p∈L',p.2.arr=none→∀j∈p.2.t.idsB,j∈keysL L') (idr:∀j∈r.idsB,j∈keysL L')
  (reach:∀i∈keysL L,∃x∈hv.map (V.ren ρ),RId H1 x (ρ i)) (h:CallH P f (hv++rest) (lkB L) r (lkB L')):
  HSem P f (hv.map (V.ren ρ)) rest H1 id (r.ren ρ) (L'.map fun p=>(ρ p.1,p.2.ren ρ)):=by
 refine ⟨hv,lkB L,lkB L',r,ρ,rfl,fun u hu i hi=>key_lkB (hh u hu i hi),⟨fun i b hb=>?_,fun i j hi hj e=>?_,fun i b hb hn=>?_,fun i b hb=>?_,fun i b hb ha j hj=>?_,fun i b hb ha j hj=>?_,fun j hj=>key_lkB (idr j hj)⟩,h,rfl,.inl ?_,fun i hi=>reach i (lkB_key hi)⟩
 ·have:=old _ (lkB_mem hb)
  exact ⟨this.2,this.1⟩
 ·exact inj i (hi.elim (fun h=>sub i (lkB_key h)) lkB_key) j (hj.elim (fun h=>sub j (lkB_key h)) lkB_key) e
 ·exact nu i (lkB_key (by rw [hb];simp)) (fun hk=>key_lkB hk hn)
 ·exact Option.ne_none_iff_exists'.1 (key_lkB (sub i (lkB_key (by rw [hb];simp))))
 ·exact key_lkB (ids _ (lkB_mem hb) ha j hj)
 ·exact key_lkB (ids' _ (lkB_mem hb) ha j hj)
 ·obtain ⟨l1,l2⟩:=look_ren inj
  funext x
  by_cases hex:∃i,lkB L' i≠none∧ρ i=x
  ·obtain ⟨i,hi,rfl⟩:=hex
   rw [backH_hit hi (fun j hj e=>inj j (lkB_key hj) i (lkB_key hi) e)]
   exact l1 i (lkB_key hi)
  ·rw [yD (fun i hi e=>hex ⟨i,hi,e⟩)]
   exact l2 x (fun i hi e=>hex ⟨i,key_lkB hi,e⟩)
theorem hsem_ro {P:Program} {f id:Nat} {hv rest:List V} {L:Hp} {r:V} {ρ:Nat→Nat} {H1:Nat→Option Blk}
  (old:∀p∈L,p.1<1000∧H1 (ρ p.1)=some (p.2.ren ρ)) (inj:∀i∈keysL L,∀j∈keysL L,ρ i=ρ j→i=j)
  (hh:∀u∈hv,∀i∈u.idsB,i∈keysL L) (ids:∀p∈L,p.2.arr=none→∀j∈p.2.t.idsB,j∈keysL L) (idr:∀j∈r.idsB,j∈keysL L)
  (reach:∀i∈keysL L,∃x∈hv.map (V.ren ρ),RId H1 x (ρ i)) (h:CallH P f (hv++rest) (lkB L) r (lkB L)):
  HSem P f (hv.map (V.ren ρ)) rest H1 id (r.ren ρ) []:=by
 refine ⟨hv,lkB L,lkB L,r,ρ,rfl,fun u hu i hi=>key_lkB (hh u hu i hi),⟨fun i b hb=>?_,fun i j hi hj e=>?_,fun i b hb hn=>?_,fun i b hb=>⟨b,hb⟩,fun i b hb ha j hj=>?_,fun i b hb ha j hj=>?_,fun j hj=>key_lkB (idr j hj)⟩,h,rfl,.inr ⟨rfl,rfl⟩,fun i hi=>reach i (lkB_key hi)⟩
 ·have:=old _ (lkB_mem hb)
  exact ⟨this.2,this.1⟩
 ·exact inj i (hi.elim lkB_key lkB_key) j (hj.elim lkB_key lkB_key) e
 ·rw [hb] at hn;cases hn
 ·exact key_lkB (ids _ (lkB_mem hb) ha j hj)
 ·exact key_lkB (ids _ (lkB_mem hb) ha j hj)
theorem callH_ro {P:Program} {f:Nat} {args:List V} {H:Nat→Option Blk} {r:V} (he:Entered P f)
  (h:∀(w:World) (I:Nat→Prop) (ι:Nat→Option Img) (cargs:List Value),MRel P (FootU w ι) I H w I ι→cargs.length=args.length→(∀(i:Nat) (v:V) (c:Value),args[i]? =some v→cargs[i]? =some c→Slot w I ι H v c)→
   Calls P f cargs.toArray w fun e w'=>∃cv I',e=.returned cv∧CallPost w w' I r cv I'):CallH P f args H r H:=by
 refine ⟨he,fun w I ι cargs hm _ hl hs=>?_⟩
 refine (h w I ι cargs hm hl hs).mono fun e w' ⟨cv,I',e1,hp⟩=>⟨cv,I',ι,e1, ?_⟩
 have hg:=call_mgo hm hp
 exact ⟨Slot.mono (keep.refl _) (fun _ h=>h) hgo_none hp.slot,call_mrel hm hp,fun id img _ h=>⟨img,h,fun _=>rfl,fun E fz rows e=>⟨E,fz,rows,e,Nat.le_refl _,fun _=>rfl⟩⟩,hg.kU,hp.sub,fun b hb=>hp.old b (hm.bnd b hb),hp.siz,hp.os,hp.tape,hp.output⟩
theorem callP_bag {P:Program} {f e:Nat} {vs:List V} {r:V} (h:∀us:List V,us.Perm vs→CallP P f [.list false us] r):CallP P f [.own e [.list false vs,.nilp]] r:=by
 refine ⟨(h vs (List.Perm.refl _)).1,fun w I cargs hb hl hs=>?_⟩
 have hl1:cargs.length=1:=hl
 obtain ⟨c,rfl⟩:∃c,cargs=[c]:=by
  match cargs,hl1 with
  |[c],_=>exact ⟨c,rfl⟩
 have hc:=hs 0 _ c rfl rfl
 have hr:Rep w I (fun _=>none) (fun _=>none) (.own e [.list false vs,.nilp]) [c]:=hc
 cases hr with
 |imm h0=>cases h0 with
  |bag hp hi=>
   rename_i us
   refine (h us hp).2 w I [c] hb rfl (fun i v c' h1 h2=>?_)
   match i,h1,h2 with
   |0,h1,h2=>cases h1;cases h2;exact Rep.imm hi
   |i+1,h1,h2=>simp at h1
open Go Go.Proofs Go.RowKit Go.Maps Go.Sort Go.Shelf
def mkeys:List V→List V
 |[]=>[]
 | .agg [.int _ k,_]::r=>.int .i64 k::mkeys r
 |_::r=>mkeys r
theorem tree_mkeys:∀{es:List V} {ks:Nat→Int} {vs:Nat→V},Tree es ks vs→mkeys es=(List.range es.length).map fun i=>V.int .i64 (ks i)
 |[],ks,vs,h=>rfl
 |x::es,ks,vs,h=>by
  obtain ⟨rfl,ht⟩:=h.tail
  rw [List.length_cons,List.range_succ_eq_map,List.map_cons,List.map_map]
  simp only [mkeys]
  rw [tree_mkeys ht]
  rfl
def RT:Value→Option (DataW Unit×List MemPlace):=fun _=>some (.lit (.bool true),[])
theorem intKeys_of {P:Program} {k:TypeId} (hk:P.underlying k=some (.int .i64)) {ks:Nat→Int}:∀(es:List MapEntry),(∀i e,es[i]? =some e→e.key=.int .i64 (ks i)∧(Lit.int .i64 (ks i)).wf=true)→
  (es.map (WideElems.rg P k RT)).map (fun (p:Lit×DataW Unit)=>Go.intOf p.1)=(List.range es.length).map ks
 |[],h=>rfl
 |e::r,h=>by
  obtain ⟨h0,hw⟩:=h 0 e rfl
  rw [List.map_cons,List.map_cons,List.length_cons,List.range_succ_eq_map,List.map_cons]
  have e1:WideElems.rg P k RT e=(.int .i64 (ks 0),.lit (.bool true)):=by
   apply WideElems.rg_of
   unfold WideElems.rd
   rw [h0,Maps.keyOf_int_mk hk hw]
   rfl
  rw [e1]
  have:=intKeys_of hk (ks:=fun i=>ks (i+1)) r (fun i e he=>h (i+1) e (by simpa using he))
  rw [this,List.map_map]
  rfl
theorem wf_key {k:Int} (h0:-9223372036854775808≤k) (h1:k<9223372036854775808):(Lit.int .i64 k).wf=true:=by
 have e0:IntKind.i64.min=-9223372036854775808:=rfl
 have e1:IntKind.i64.max=9223372036854775807:=rfl
 simp only [Lit.wf,Bool.and_eq_true,decide_eq_true_eq]
 omega
theorem owns_of {P:Program} {k:TypeId} (hk:P.underlying k=some (.int .i64)) {w:World} {I:Nat→Prop} {b:Nat} {es:List V} (h:MapAt w I b es):
  ∃D0:DataW Unit,w.ownsMap P k RT b es.length D0∧Maps.size D0=es.length∧∀ss:List Int,ss.Perm (intKeys D0)→(ss.map (V.int .i64)).Perm (mkeys es):=by
 obtain ⟨ens,clock,ks,vs,part,h1,h2,h3,h0,h4,h5,h6⟩:=h
 have hkey:∀i e,ens.toList[i]? =some e→e.key=.int .i64 (ks i)∧(Lit.int .i64 (ks i)).wf=true:=fun i e he=>by
  have:=h5 i e (by simpa using he)
  exact ⟨this.key,wf_key this.lo this.hi⟩
 refine ⟨.map ((ens.toList.map (WideElems.rg P k RT)).foldr DataW.insert []),⟨ens,clock,h1,⟨?_,h2,fun x hx=>?_⟩,by omega,rfl⟩, ?_,fun ss hp=>?_⟩
 ·show ens.size≤lenMax
  omega
 ·obtain ⟨i,hi,e⟩:=List.mem_iff_getElem.1 hx
  obtain ⟨a,c⟩:=hkey i x (by rw [List.getElem?_eq_getElem hi,e])
  exact ⟨(.int .i64 (ks i),.lit (.bool true)),by unfold WideElems.rd;rw [a,Maps.keyOf_int_mk hk c];rfl⟩
 ·rw [Maps.size_eq,Go.length_sorted]
  simp;omega
 ·have e1:(intKeys (.map ((ens.toList.map (WideElems.rg P k RT)).foldr DataW.insert []:List (Lit×DataW Unit)))).Perm ((ens.toList.map (WideElems.rg P k RT)).map fun (p:Lit×DataW Unit)=>Go.intOf p.1):=
   (Go.WideShapes.sorted_perm _).map _
  rw [intKeys_of hk _ hkey] at e1
  have:=(hp.trans e1).map (V.int .i64)
  rw [tree_mkeys h4,h3]
  rw [List.map_map] at this
  simpa [Function.comp_def] using this
theorem imm_row {w:World} {I:Nat→Prop} {base e:Nat} {v:Value} {ss:List Int} (h:w.ownsRow base e 1 v ss.length (ss.map encZ)) (hI:∀g,base≤g→g<w.heap.size→I g):Imm w I (.list false (ss.map (V.int .i64))) [v]:=by
 obtain ⟨h1,⟨rfl,h2⟩|⟨g,cap,cur,rfl,hg,hb,hle,hcm,hsz,htk⟩⟩:=h
 ·have:ss=[]:=List.length_eq_zero_iff.1 h2
  subst this
  exact imm_nils
 ·have hlt:g<w.heap.size:=(Array.getElem?_eq_some_iff.1 hb).1
  have e0:(ss.map (V.int .i64)).length=ss.length:=by simp
  have:=Imm.list (w:=w) (I:=I) (c:=false) (vs:=ss.map (V.int .i64)) (a:=some ⟨g,0,none⟩) (cap:=cap) (sz:=1) (part:=fun i=>[encZ (ss.getD i 0)]) (by simpa using hle) hcm (fun h=>by cases h)
   (fun _=>⟨⟨g,0,none⟩,rfl,rfl,hI g hg hlt,fun i hi j c hj=>by
    have hi:i<ss.length:=by simpa using hi
    have hj0:j=0:=by
     have:=(List.getElem?_eq_some_iff.1 hj).1
     simp at this;omega
    subst hj0
    simp only [List.getElem?_cons_zero,Option.some.injEq] at hj
    subst hj
    have ht:(cur.toList.take (ss.length*1))[i]? =(ss.map encZ)[i]?:=by rw [htk]
    rw [List.getElem?_take,if_pos (by omega),List.getElem?_map,List.getElem?_eq_getElem hi] at ht
    simp only [World.cell?,hb,Nat.mul_one,Nat.add_zero,Nat.zero_add]
    rw [←Array.getElem?_toList,ht]
    simp [List.getD,hi]⟩) (fun i hi=>rfl) (fun i v hv=>by
    rw [List.getElem?_map] at hv
    obtain ⟨x,hx,rfl⟩:=Option.map_eq_some_iff.1 hv
    simp only [List.getD,hx,Option.getD_some]
    exact .int)
  rw [e0] at this
  exact this
theorem collect_call {P:Program} {ρ:Ren} (L8:SlLaysZI.n8 P ρ) (L10:SlLaysZI.n10 P ρ) {T E:Nat} {fz fz':Bool} {es:List V} (hl:es.length≤1000000):
  CallH P (ρ.f 8) [.fn (ρ.f 10) [.ptr 0 0 []]] (lkB [(0,⟨none,fz,.own T [.ptr 1 0 [],.nilp]⟩),(1,⟨some E,fz',.own E es⟩)]) (.own 0 [.list false (mkeys es),.nilp]) (lkB [(0,⟨none,fz,.own T [.ptr 1 0 [],.nilp]⟩),(1,⟨some E,fz',.own E es⟩)]):=by
 have e8:Entered P (ρ.f 8):=L8.f8.enters rfl
 have e10:∀args w,(callFunc (ρ.f 10) args).run P w=.ok (.enter (ρ.f 10) args) w:=L10.f10.enters rfl
 refine callH_ro e8 fun w I ι cargs hm hlen hs=>?_
 have hl1:cargs.length=1:=hlen
 obtain ⟨c,rfl⟩:∃c,cargs=[c]:=by
  match cargs,hl1 with
  |[c],_=>exact ⟨c,rfl⟩
 have hc:Rep w I ι _ (.fn (ρ.f 10) [.ptr 0 0 []]) [c]:=hs 0 _ c rfl rfl
 generalize hH:lkB [(0,(⟨none,fz,.own T [.ptr 1 0 [],.nilp]⟩:Blk)),(1,⟨some E,fz',.own E es⟩)]=H at hm hc
 have hH0:H 0=some ⟨none,fz,.own T [.ptr 1 0 [],.nilp]⟩:=by rw [←hH];rfl
 have hH1:H 1=some ⟨some E,fz',.own E es⟩:=by rw [←hH];rfl
 have key:∀g:Nat→Value,Rep w I ι H (.ptr 0 0 []) [g 0]→c=.func (.func (ρ.f 10)) #[] ((List.range 1).map g).toArray→Calls P (ρ.f 8) [c].toArray w fun e w'=>∃cv I',e=.returned cv∧CallPost w w' I (.own 0 [.list false (mkeys es),.nilp]) cv I':=by
  intro g hg hcg
  obtain ⟨b0,cap0,i0,hcell⟩:=hg.ptr_inv
  have hg0:g 0=.pointer (some ⟨b0,0,none⟩):=by simpa using hcell
  obtain ⟨cs,k1,k2⟩:=box_of hm i0 hH0
  cases k2 with
  |imm h=>cases h
  |mp i1=>
   rename_i b1 cap1
   obtain ⟨img,g1,g2,g3⟩:=hm.heap 1 _ hH1
   rw [i1] at g1;cases g1
   rcases g3 with ⟨rows,e,_⟩|⟨es2,b2,q1,q2,q3⟩
   ·cases e
   ·cases q1;cases q2
    have hb0:b0<w.heap.size:=(hm.img 0 _ _ i0 rfl).2
    have hcb:w.cell? ⟨b0,0,none⟩=some (.map (some b1)):=by rw [blk_cell k1];rfl
    have hk:P.underlying (ρ.t 26)=some (.int .i64):=L8.t26
    obtain ⟨D0,ho,hsz,hperm⟩:=owns_of hk q3
    have hseq:=AnyZI.keys_gives L10 Fence.wide 1 trivial rfl (by omega) b0 b1 _ D0 w hb0 hcb ho
    have hcol:=AnyZI.collect_in L8 Fence.wide 3 trivial trivial rfl (by omega) (ρ.f 10) #[.pointer (some ⟨b0,0,none⟩)] trivial e10 _ _ (by rw [hsz];have:maxLen=9223372036854775807:=rfl;omega) (by rw [hsz];omega) w hseq
    have hc2:[c].toArray=#[.func (.func (ρ.f 10)) #[] #[.pointer (some ⟨b0,0,none⟩)]]:=by rw [hcg];simp [hg0]
    rw [hc2]
    refine (callsIn_wide.1 hcol).mono fun e w' ⟨v,ss,r1,r2,r3,r4,r5⟩=>⟨v,fun b=>I b∨(w.heap.size≤b∧b<w'.heap.size),r1, ?_⟩
    refine ⟨?_,r5.block,r5.size,fun b hb=>.inl hb,fun b hb=>hb.imp id (fun h=>h.1),fun b hb=>?_,r5.os,r5.tape,r5.output⟩
    ·have hi:=imm_row r3 (I:=fun b=>I b∨(w.heap.size≤b∧b<w'.heap.size)) (fun g h1 h2=>.inr ⟨h1,h2⟩)
     exact Rep.imm (.bag (hperm ss r2) hi)
    ·rcases hb with hb|hb
     ·exact Nat.lt_of_lt_of_le (hm.bnd b hb) r5.size
     ·exact hb.2
 cases hc with
 |imm h=>cases h with
  |fn h=>
   rename_i g
   have:=h 0 (.ptr 0 0 []) rfl
   cases this
 |fn h=>exact key _ (h 0 (.ptr 0 0 []) rfl) rfl
def hbCol (G:Nat):HBody:=fun hvc rest H1 id k=>match hvc with
 |[.fn g l]=>match l with
  |[.ptr c off p]=>match off,p,rest with
   |0,[],[]=>match H1 c with
    |some ⟨none,_,t⟩=>match t with
     | .own _ l2=>match l2 with
      |[.ptr m off2 p2,.nilp]=>match off2,p2 with
       |0,[]=>match H1 m with
        |some ⟨some E,_,t2⟩=>match t2 with
         | .own E2 es=>chkP (Nat.beq g G) (chkP (Nat.beq E E2) (es.length≤1000000∧k (.own 0 [.list false (mkeys es),.nilp]) []))
         |_=>False
        |_=>False
       |_,_=>False
      |_=>False
     |_=>False
    |_=>False
   |_,_,_=>False
  |_=>False
 |_=>False
theorem hbCol_inv {G id:Nat} {hvc rest:List V} {H1:Nat→Option Blk} {k:V→Hp→Prop} (h:hbCol G hvc rest H1 id k):∃(c m T E:Nat) (fz fz':Bool) (es:List V),hvc=[.fn G [.ptr c 0 []]]∧rest=[]∧
  H1 c=some ⟨none,fz,.own T [.ptr m 0 [],.nilp]⟩∧H1 m=some ⟨some E,fz',.own E es⟩∧es.length≤1000000∧k (.own 0 [.list false (mkeys es),.nilp]) []:=by
 unfold hbCol at h
 repeat' (first|(exact h.elim)|split at h)
 simp only [zE] at h
 obtain ⟨h1,h2,h3,h4⟩:=h
 have h1:=Nat.eq_of_beq_eq_true h1
 have h2:=Nat.eq_of_beq_eq_true h2
 subst h1 h2
 exact ⟨_,_,_,_,_,_,_,rfl,rfl,by assumption,by assumption,h3,h4⟩
theorem hcol_ok {P:Program} {ρ:Ren} (L8:SlLaysZI.n8 P ρ) (L10:SlLaysZI.n10 P ρ):HOk P (ρ.f 8) (hbCol (ρ.f 10)):=by
 intro hvc rest H1 id k h
 obtain ⟨c,m,T,E,fz,fz',es,rfl,rfl,hc,hm,h3,h4⟩:=hbCol_inv h
 have hcm:c≠m:=fun e=>by rw [e,hm] at hc;cases hc
 refine ⟨_,_, ?_,h4⟩
 refine hsem_ro (ρ:=ro2 c m) (hv:=[.fn (ρ.f 10) [.ptr 0 0 []]]) (L:=[(0,⟨none,fz,.own T [.ptr 1 0 [],.nilp]⟩),(1,⟨some E,fz',.own E es⟩)]) (r:=.own 0 [.list false (mkeys es),.nilp])
  (fun p hp=>?_) (fun i hi j hj e=>?_) (fun u hu i hi=>?_) (fun p hp ha j hj=>?_) (fun j hj=>?_) (fun i hi=>?_) (collect_call L8 L10 h3)
 ·simp at hp
  rcases hp with rfl|rfl
  ·exact ⟨Nat.zero_lt_succ _,by rw [ro2_0,hc];rfl⟩
  ·exact ⟨Nat.one_lt_succ_succ _,by rw [ro2_1,hm];rfl⟩
 ·simp [keysL] at hi hj
  rcases hi with rfl|rfl<;>rcases hj with rfl|rfl<;>first|rfl|(exact absurd e hcm)|(exact absurd e.symm hcm)
 ·simp at hu;subst hu;simp [V.idsB,V.idsBs] at hi;subst hi;simp [keysL]
 ·simp at hp
  rcases hp with rfl|rfl
  ·simp [V.idsB,V.idsBs] at hj;subst hj;simp [keysL]
  ·cases ha
 ·simp [V.idsB,V.idsBs] at hj
 ·refine ⟨.fn (ρ.f 10) [.ptr c 0 []],by simp [V.ren,V.rens,ro2_0], ?_⟩
  simp [keysL] at hi
  rcases hi with rfl|rfl
  ·exact .inl (by simp [V.idsB,V.idsBs,ro2_0])
  ·exact .inr ⟨c,by simp [V.idsB,V.idsBs],fz,_,hc,by simp [V.idsB,V.idsBs,ro2_1]⟩
end GoL
