/- A part of the proof: a logic proved sound over the model; contracts; plain laws. -/
import Derived.Test.YteeaefidpkifbaaGA
import Derived.Laws.MakeOwn
import Derived.Laws.Tables
import Derived.Deep.AppendSrc
import Derived.Laws.Slices
import Derived.Laws.BytesString
import Derived.Lib.ConvBytes
set_option linter.all false
namespace GoL
open Go
def setO {α:Type} (f:Nat→Option α) (i:Nat) (x:α):Nat→Option α:=fun j=>if j=i then some x else f j
@[simp] theorem setO_same {α:Type} (f:Nat→Option α) (i:Nat) (x:α):setO f i x i=some x:=by simp [setO]
theorem zV {α:Type} (f:Nat→Option α) {i j:Nat} (x:α) (h:j≠i):setO f i x j=f j:=by simp [setO,h]
theorem zG (H:Nat→Option Blk) (i:Nat) (b:Blk) (l:List (Nat×Blk)):over H ((i,b)::l)=setO (over H l) i b:=by
 funext j
 simp only [over,look,setO]
 by_cases h:i=j
 ·subst h;simp
 ·rw [if_neg h,if_neg (fun e=>h e.symm)]
section
variable {P:Program} {U I0:Nat→Prop} {H:Nat→Option Blk} {w:World} {I:Nat→Prop} {ι:Nat→Option Img} {id:Nat}
theorem ArrAt.mono {w':World} {I':Nat→Prop} {img:Img} {E:Nat} {rows:List V} (h:ArrAt P w I img E rows) (hb:∀b,img.b=some b→w'.heap[b]? =w.heap[b]?)
  (hk:keep I w w') (hi:∀b,I b→I' b):ArrAt P w' I' img E rows:=by
 obtain ⟨h1,h2,h3⟩:=h
 refine ⟨h1,h2, ?_⟩
 cases hx:img.b with
 |none=>rw [hx] at h3;exact h3
 |some b=>
  rw [hx] at h3
  obtain ⟨front,spare,k1,k2,k3⟩:=h3
  exact ⟨front,spare,blk_keep k1 (hb b hx),k2.mono hk hi,k3⟩
theorem MapAt.mono {w':World} {I':Nat→Prop} {b:Nat} {es:List V} (h:MapAt w I b es) (hb:w'.heap[b]? =w.heap[b]?) (hk:keep I w w') (hi:∀b,I b→I' b):MapAt w' I' b es:=by
 obtain ⟨ens,clock,ks,vs,part,h1,h2,h3,h0,h4,h5,h6⟩:=h
 exact ⟨ens,clock,ks,vs,part,hb.trans h1,h2,h3,h0,h4,h5,fun i hi'=>(h6 i hi').mono hk hi⟩
theorem BlkRep.mono {w':World} {I':Nat→Prop} {ι':Nat→Option Img} {H':Nat→Option Blk} {i:Nat} {blk blk':Blk} (h:BlkRep P w I ι H i blk) (hi':ι' i=ι i)
  (hb:∀m b,ι i=some m→m.b=some b→w'.heap[b]? =w.heap[b]?) (hk:keep I w w') (hi:∀b,I b→I' b) (hg:HGo ι ι' H H')
  (ha:blk'.arr=blk.arr) (ht:blk'.t=blk.t):BlkRep P w' I' ι' H' i blk':=by
 obtain ⟨arr,fz,t⟩:=blk
 obtain ⟨arr',fz',t'⟩:=blk'
 simp only at ha ht
 subst ha ht
 obtain ⟨img,g1,g2,g3⟩:=h
 refine ⟨img,hi'.trans g1,g2, ?_⟩
 cases arr' with
 |none=>
  obtain ⟨b,cs,k1,k2,k3⟩:=g3
  exact ⟨b,cs,k1,blk_keep k2 (hb img b g1 k1),k3.mono hk hi hg⟩
 |some E=>
  rcases g3 with ⟨rows,k1,k2⟩|⟨es,b,k1,k2,k3⟩
  ·exact .inl ⟨rows,k1,k2.mono (fun b hx=>hb img b g1 hx) hk hi⟩
  ·exact .inr ⟨es,b,k1,k2,k3.mono (hb img b g1 k2) hk hi⟩
theorem hgo_freeze {i:Nat} {b:Blk} (hH:H i=some b):HGo ι ι H (setO H i { b with fz:=true }):=by
 intro j img hj
 refine ⟨img,hj,fun _=>rfl,fun E fz rows hr=>?_⟩
 by_cases hji:j=i
 ·subst hji
  rw [setO_same] at hr
  obtain ⟨arr,fz0,t⟩:=b
  simp only [Option.some.injEq,Blk.mk.injEq] at hr
  obtain ⟨rfl,_,rfl⟩:=hr
  exact ⟨E,fz0,rows,hH,Nat.le_refl _,fun _=>rfl⟩
 ·rw [zV _ _ hji] at hr
  exact ⟨E,fz,rows,hr,Nat.le_refl _,fun _=>rfl⟩
theorem freeze_one (hm:MRel P U I0 H w I ι) {i:Nat} {b:Blk} (hH:H i=some b):
  ∃I',(∀x,I' x↔I x∨∃m,ι i=some m∧m.b=some x)∧MRel P U I0 (setO H i { b with fz:=true }) w I' ι∧MGo U I I' ι ι H (setO H i { b with fz:=true }) w w:=by
 let I':Nat→Prop:=fun x=>I x∨∃m,ι i=some m∧m.b=some x
 have hsub:∀x,I x→I' x:=fun x h=>.inl h
 have hg:=hgo_freeze (ι:=ι) hH
 refine ⟨I',fun x=>Iff.rfl, ?_,⟨keep.refl _,fun _ _=>rfl,hsub,hg,Nat.le_refl _,rfl,rfl,rfl⟩⟩
 refine { heap:=?_,inj:=hm.inj,img:=hm.img,live:=?_,bnd:=?_,org:=?_,new:=hm.new }
 ·intro j blk hj
  by_cases hji:j=i
  ·subst hji
   rw [setO_same] at hj
   cases hj
   exact (hm.heap _ _ hH).mono rfl (fun _ _ _ _=>rfl) (keep.refl _) hsub hg rfl rfl
  ·rw [zV _ _ hji] at hj
   exact (hm.heap _ _ hj).mono rfl (fun _ _ _ _=>rfl) (keep.refl _) hsub hg rfl rfl
 ·intro j blk m x hj hm1 hx
  by_cases hji:j=i
  ·subst hji
   rw [setO_same] at hj
   cases hj
   exact ⟨fun _=>.inr ⟨m,hm1,hx⟩,fun h=>by cases h⟩
  ·rw [zV _ _ hji] at hj
   obtain ⟨l1,l2⟩:=hm.live j blk m x hj hm1 hx
   refine ⟨fun h=>.inl (l1 h),fun h hI=>?_⟩
   rcases hI with hI|⟨m',hm',hx'⟩
   ·exact l2 h hI
   ·exact hji (hm.inj j i m m' x hm1 hm' hx hx')
 ·intro x hx
  rcases hx with hx|⟨m,h1,h2⟩
  ·exact hm.bnd x hx
  ·exact (hm.img i m x h1 h2).2
 ·intro x hx
  rcases hx with hx|⟨m,h1,h2⟩
  ·exact hm.org x hx
  ·exact .inr (hm.img i m x h1 h2).1
theorem over_freeze (l:List Nat) {i:Nat} {b:Blk} (hH:H i=some b):∃f,over H (frz H l) i=some { b with fz:=f }∧(i∈l→f=true)∧(b.fz=true→f=true):=by
 induction l with
 |nil=>exact ⟨b.fz,hH,(fun h=>by cases h),fun h=>h⟩
 |cons j r ih=>
  obtain ⟨f,h1,h2,h3⟩:=ih
  simp only [frz]
  cases hj:H j with
  |none=>
   refine ⟨f,h1,fun h=>?_,h3⟩
   rcases List.mem_cons.1 h with rfl|h
   ·rw [hH] at hj;cases hj
   ·exact h2 h
  |some bj=>
   simp only
   cases hbf:bj.fz with
   |true=>
    refine ⟨f,h1,fun h=>?_,h3⟩
    rcases List.mem_cons.1 h with rfl|h
    ·rw [hH] at hj;cases hj;exact h3 hbf
    ·exact h2 h
   |false=>
    simp only
    rw [zG]
    by_cases hji:i=j
    ·subst hji
     rw [setO_same]
     rw [hH] at hj;cases hj
     exact ⟨true,rfl,fun _=>rfl,fun _=>rfl⟩
    ·rw [zV _ _ hji]
     refine ⟨f,h1,fun h=>?_,h3⟩
     rcases List.mem_cons.1 h with h|h
     ·exact absurd h hji
     ·exact h2 h
theorem freeze_all (hm:MRel P U I0 H w I ι) (l:List Nat):
  ∃I',(∀x,I' x→I x∨∃i m,i∈l∧ι i=some m∧m.b=some x)∧(∀i b m x,i∈l→H i=some b→ι i=some m→m.b=some x→I' x)∧
   MRel P U I0 (over H (frz H l)) w I' ι∧MGo U I I' ι ι H (over H (frz H l)) w w:=by
 induction l with
 |nil=>exact ⟨I,fun x h=>.inl h,fun i b m x h=>(by cases h),hm,MGo.refl⟩
 |cons i r ih=>
  obtain ⟨I1,a0,a1,a2,a3⟩:=ih
  simp only [frz]
  cases hi:H i with
  |none=>
   refine ⟨I1,fun x h=>?_,fun j b m x hj hb hm1 hx=>?_,a2,a3⟩
   ·rcases a0 x h with h|⟨k,m,h1,h2⟩
    ·exact .inl h
    ·exact .inr ⟨k,m,List.mem_cons_of_mem _ h1,h2⟩
   ·rcases List.mem_cons.1 hj with rfl|hj
    ·rw [hi] at hb;cases hb
    ·exact a1 j b m x hj hb hm1 hx
  |some b=>
   simp only
   cases hbf:b.fz with
   |true=>
    refine ⟨I1,fun x h=>?_,fun j bj m x hj hb hm1 hx=>?_,a2,a3⟩
    ·rcases a0 x h with h|⟨k,m,h1,h2⟩
     ·exact .inl h
     ·exact .inr ⟨k,m,List.mem_cons_of_mem _ h1,h2⟩
    ·rcases List.mem_cons.1 hj with rfl|hj
     ·exact a3.sub _ ((hm.live _ _ _ _ hi hm1 hx).1 hbf)
     ·exact a1 j bj m x hj hb hm1 hx
   |false=>
    simp only
    rw [zG]
    obtain ⟨f,h1,h2,_⟩:=over_freeze r hi
    obtain ⟨I2,b0,b1,b2⟩:=freeze_one a2 h1
    refine ⟨I2,fun x h=>?_,fun j bj m x hj hb hm1 hx=>?_,b1,a3.trans b2⟩
    ·rcases (b0 x).1 h with h|⟨m,h3,h4⟩
     ·rcases a0 x h with h|⟨k,m,h5,h6⟩
      ·exact .inl h
      ·exact .inr ⟨k,m,List.mem_cons_of_mem _ h5,h6⟩
     ·exact .inr ⟨i,m,by simp,h3,h4⟩
    ·rcases List.mem_cons.1 hj with rfl|hj
     ·exact (b0 x).2 (.inr ⟨m,hm1,hx⟩)
     ·exact (b0 x).2 (.inl (a1 j bj m x hj hb hm1 hx))
theorem heap_push_old {w w':World} {o:Obj} (h:w'.heap=w.heap.push o) {b:Nat} (hb:b<w.heap.size):w'.heap[b]? =w.heap[b]?:=by
 rw [h,Array.getElem?_push,if_neg (by omega)]
theorem heap_push_new {w w':World} {o:Obj} (h:w'.heap=w.heap.push o):w'.heap[w.heap.size]? =some o:=by
 rw [h,Array.getElem?_push,if_pos rfl]
theorem hgo_new {img:Img} {blk:Blk} (hid:ι id=none):HGo ι (setO ι id img) H (setO H id blk):=by
 intro j m hj
 have hne:j≠id:=fun e=>by rw [e,hid] at hj;cases hj
 refine ⟨m,by rw [zV _ _ hne];exact hj,fun _=>rfl,fun E fz rows hr=>?_⟩
 rw [zV _ _ hne] at hr
 exact ⟨E,fz,rows,hr,Nat.le_refl _,fun _=>rfl⟩
theorem new_block (hm:MRel P U I0 H w I ι) (hid:ι id=none) {w':World} {o:Obj} (hp:w'.heap=w.heap.push o) (he:w'.os=w.os∧w'.tape=w.tape∧w'.output=w.output)
  {blk:Blk} {cap:Nat} {a:Bool} (hf:blk.fz=false)
  (hr:∀(_:keep I w w') (_:HGo ι (setO ι id ⟨some w.heap.size,cap,a⟩) H (setO H id blk)),BlkRep P w' I (setO ι id ⟨some w.heap.size,cap,a⟩) (setO H id blk) id blk):
  MRel P U I0 (setO H id blk) w' I (setO ι id ⟨some w.heap.size,cap,a⟩)∧MGo U I I ι (setO ι id ⟨some w.heap.size,cap,a⟩) H (setO H id blk) w w'∧
   (∀j,j≠id→ι j=none→setO ι id ⟨some w.heap.size,cap,a⟩ j=none):=by
 have hold:∀b,b<w.heap.size→w'.heap[b]? =w.heap[b]?:=fun b hb=>heap_push_old hp hb
 have hk:keep I w w':=fun b hb=>hold b (hm.bnd b hb)
 have hg:HGo ι (setO ι id ⟨some w.heap.size,cap,a⟩) H (setO H id blk):=hgo_new hid
 have hsz:w'.heap.size=w.heap.size+1:=by rw [hp];simp
 refine ⟨{ heap:=?_,inj:=?_,img:=?_,live:=?_,bnd:=?_,org:=hm.org,new:=?_ },⟨hk, ?_,fun _ h=>h,hg,by omega,he.1,he.2.1,he.2.2⟩,fun j hj h=>by rw [zV _ _ hj];exact h⟩
 ·intro j bj hj
  by_cases hji:j=id
  ·subst hji
   rw [setO_same] at hj;cases hj
   exact hr hk hg
  ·rw [zV _ _ hji] at hj
   exact (hm.heap _ _ hj).mono (zV _ _ hji) (fun m b h1 h2=>hold b (hm.img j m b h1 h2).2) hk (fun _ h=>h) hg rfl rfl
 ·intro i j m k b hi hj hb hb'
  by_cases h1:i=id<;>by_cases h2:j=id
  ·rw [h1,h2]
  ·subst h1
   rw [setO_same] at hi;cases hi
   simp only [Option.some.injEq] at hb;subst hb
   rw [zV _ _ h2] at hj
   have:=(hm.img j k _ hj hb').2
   omega
  ·subst h2
   rw [setO_same] at hj;cases hj
   simp only [Option.some.injEq] at hb';subst hb'
   rw [zV _ _ h1] at hi
   have:=(hm.img i m _ hi hb).2
   omega
  ·rw [zV _ _ h1] at hi
   rw [zV _ _ h2] at hj
   exact hm.inj i j m k b hi hj hb hb'
 ·intro i m b hi hb
  by_cases h1:i=id
  ·subst h1
   rw [setO_same] at hi;cases hi
   simp only [Option.some.injEq] at hb;subst hb
   exact ⟨hm.new _ (Nat.le_refl _),by omega⟩
  ·rw [zV _ _ h1] at hi
   have:=hm.img i m b hi hb
   exact ⟨this.1,by omega⟩
 ·intro i bi m b hi hm1 hb
  by_cases h1:i=id
  ·subst h1
   rw [setO_same] at hi hm1;cases hi;cases hm1
   simp only [Option.some.injEq] at hb;subst hb
   refine ⟨fun h=>(by rw [hf] at h;cases h),fun _ hI=>?_⟩
   have:=hm.bnd _ hI
   omega
  ·rw [zV _ _ h1] at hi hm1
   exact hm.live i bi m b hi hm1 hb
 ·intro b hb
  have:=hm.bnd b hb
  omega
 ·intro b hb
  exact hm.new b (by omega)
 ·intro b hb
  refine hold b ?_
  rcases Nat.lt_or_ge b w.heap.size with h|h
  ·exact h
  ·exact absurd (hm.new b h) hb
theorem new_imm (hm:MRel P U I0 H w I ι) {w':World} {o:Obj} (hp:w'.heap=w.heap.push o) (he:w'.os=w.os∧w'.tape=w.tape∧w'.output=w.output):
  MRel P U I0 H w' (fun b=>I b∨b=w.heap.size) ι∧MGo U I (fun b=>I b∨b=w.heap.size) ι ι H H w w':=by
 have hold:∀b,b<w.heap.size→w'.heap[b]? =w.heap[b]?:=fun b hb=>heap_push_old hp hb
 have hk:keep I w w':=fun b hb=>hold b (hm.bnd b hb)
 have hsz:w'.heap.size=w.heap.size+1:=by rw [hp];simp
 refine ⟨{ heap:=?_,inj:=hm.inj,img:=?_,live:=?_,bnd:=?_,org:=?_,new:=?_ },⟨hk, ?_,fun _ h=>.inl h,HGo.refl,by omega,he.1,he.2.1,he.2.2⟩⟩
 ·intro j bj hj
  exact (hm.heap _ _ hj).mono rfl (fun m b h1 h2=>hold b (hm.img j m b h1 h2).2) hk (fun _ h=>.inl h) HGo.refl rfl rfl
 ·intro i m b hi hb
  have:=hm.img i m b hi hb
  exact ⟨this.1,by omega⟩
 ·intro i bi m b hi hm1 hb
  obtain ⟨l1,l2⟩:=hm.live i bi m b hi hm1 hb
  refine ⟨fun h=>.inl (l1 h),fun h hI=>?_⟩
  rcases hI with hI|rfl
  ·exact l2 h hI
  ·have:=(hm.img i m _ hm1 hb).2
   omega
 ·intro b hb
  rcases hb with hb|rfl
  ·have:=hm.bnd b hb;omega
  ·omega
 ·intro b hb
  rcases hb with hb|rfl
  ·exact hm.org b hb
  ·exact .inr (hm.new _ (Nat.le_refl _))
 ·intro b hb
  exact hm.new b (by omega)
 ·intro b hb
  refine hold b ?_
  rcases Nat.lt_or_ge b w.heap.size with h|h
  ·exact h
  ·exact absurd (hm.new b h) hb
theorem put_block (hm:MRel P U I0 H w I ι) {i b:Nat} {m:Img} {w':World} {blk blk':Blk} (hH:H i=some blk) (hf:blk.fz=false) (hi:ι i=some m) (hb:m.b=some b)
  (hother:∀k,k≠b→w'.heap[k]? =w.heap[k]?) (hsz:w'.heap.size=w.heap.size) (he:w'.os=w.os∧w'.tape=w.tape∧w'.output=w.output) (hf':blk'.fz=false)
  (hg:HGo ι ι H (setO H i blk'))
  (hr:∀(_:keep I w w'),BlkRep P w' I ι (setO H i blk') i blk'):
  MRel P U I0 (setO H i blk') w' I ι∧MGo U I I ι ι H (setO H i blk') w w':=by
 have hnI:¬I b:=(hm.live i blk m b hH hi hb).2 hf
 have hk:keep I w w':=fun x hx=>hother x (fun e=>hnI (e▸hx))
 refine ⟨{ heap:=?_,inj:=hm.inj,img:=?_,live:=?_,bnd:=?_,org:=hm.org,new:=?_ },⟨hk, ?_,fun _ h=>h,hg,by omega,he.1,he.2.1,he.2.2⟩⟩
 ·intro j bj hj
  by_cases hji:j=i
  ·subst hji
   rw [setO_same] at hj;cases hj
   exact hr hk
  ·rw [zV _ _ hji] at hj
   exact (hm.heap _ _ hj).mono rfl (fun m' b' h1 h2=>hother b' (fun e=>hji (hm.inj j i m' m b h1 hi (e▸h2) hb))) hk (fun _ h=>h) hg rfl rfl
 ·intro j m' b' hj hb'
  have:=hm.img j m' b' hj hb'
  exact ⟨this.1,by omega⟩
 ·intro j bj m' b' hj hm1 hb'
  by_cases hji:j=i
  ·subst hji
   rw [setO_same] at hj;cases hj
   have:=hm.live j blk m' b' hH hm1 hb'
   exact ⟨fun h=>(by rw [hf'] at h;cases h),fun _=>this.2 hf⟩
  ·rw [zV _ _ hji] at hj
   exact hm.live j bj m' b' hj hm1 hb'
 ·intro x hx
  have:=hm.bnd x hx;omega
 ·intro x hx
  exact hm.new x (by omega)
 ·intro x hx
  exact hother x (fun e=>hx (e▸(hm.img i m b hi hb).1))
end
open Go
theorem sameCell_eq {a b:Value} (h:sameCell a b=true):a=b:=by
 unfold sameCell at h
 split at h
 ·simp only [Bool.and_eq_true,beq_iff_eq] at h
  obtain ⟨rfl,rfl⟩:=h;rfl
 ·simp only [beq_iff_eq] at h;subst h;rfl
 ·rename_i a b
  simp only [beq_iff_eq] at h
  congr 1
  apply ByteArray.ext
  apply Array.ext'
  exact h
 ·rfl
 ·rfl
 ·rfl
 ·cases h
theorem sameCells_eq:∀{a b:List Value},sameCells a b=true→a=b
 |[],[],_=>rfl
 |a::r,b::q,h=>by
  simp only [sameCells,Bool.and_eq_true] at h
  rw [sameCell_eq h.1,sameCells_eq h.2]
 |[],_::_,h=>by cases h
 |_::_,[],h=>by cases h
theorem parts_cons (v:V) (r:List V) (part:Nat→List Value):(List.range (v::r).length).flatMap part=part 0++(List.range r.length).flatMap (fun i=>part (i+1)):=by
 rw [List.length_cons,List.range_succ_eq_map,List.flatMap_cons,List.flatMap_map]
mutual
theorem flat_imm {w:World} {I:Nat→Prop}:∀(z:V) {l:List Value},z.flat=some l→Imm w I z l
 | .int k n,l,h=>by simp only [V.flat,Option.some.injEq] at h;subst h;exact .int
 | .bool b,l,h=>by simp only [V.flat,Option.some.injEq] at h;subst h;exact .bool
 | .str s,l,h=>by
  simp only [V.flat] at h
  split at h
  ·rename_i e;subst e
   simp only [Option.some.injEq] at h;subst h
   exact .str (by simp)
  ·cases h
 | .nils,l,h=>by simp only [V.flat,Option.some.injEq] at h;subst h;exact .nils
 | .nilp,l,h=>by simp only [V.flat,Option.some.injEq] at h;subst h;exact .nilp
 | .agg vs,l,h=>by
  simp only [V.flat] at h
  obtain ⟨part,e,hp⟩:=flats_imm (w:=w) (I:=I) vs h
  rw [e];exact .agg hp
 | .list _ _,_,h=>by simp [V.flat] at h
 | .tup _,_,h=>by simp [V.flat] at h
 | .ptr _ _ _,_,h=>by simp [V.flat] at h
 | .eptr _ _ _ _,_,h=>by simp [V.flat] at h
 | .dptr _,_,h=>by simp [V.flat] at h
 | .sl _ _,_,h=>by simp [V.flat] at h
 | .fn _ _,_,h=>by simp [V.flat] at h
 | .own _ [],l,h=>by simp only [V.flat,Option.some.injEq] at h;subst h;exact .nilm
 | .own _ (_::_),_,h=>by simp [V.flat] at h
 | .nbox _,_,h=>by simp [V.flat] at h
 | .gd _ _,_,h=>by simp [V.flat] at h
 | .junk,_,h=>by simp [V.flat] at h
theorem flats_imm {w:World} {I:Nat→Prop}:∀(vs:List V) {l:List Value},V.flats vs=some l→
  ∃part:Nat→List Value,l=(List.range vs.length).flatMap part∧∀i v,vs[i]? =some v→Imm w I v (part i)
 |[],l,h=>by
  simp only [V.flats,Option.some.injEq] at h
  exact ⟨fun _=>[],by simp [←h],fun i v hv=>by simp at hv⟩
 |v::r,l,h=>by
  simp only [V.flats] at h
  cases ha:v.flat with
  |none=>simp [ha] at h
  |some a=>
   cases hb:V.flats r with
   |none=>simp [ha,hb] at h
   |some b=>
    simp only [ha,hb,Option.some.injEq] at h
    subst h
    obtain ⟨part,e,hp⟩:=flats_imm (w:=w) (I:=I) r hb
    refine ⟨fun i=>match i with|0=>a|i+1=>part i, ?_,fun i u hu=>?_⟩
    ·rw [parts_cons,←e]
    ·cases i with
     |zero=>simp at hu;subst hu;exact flat_imm v ha
     |succ i=>exact hp i u (by simpa using hu)
end
section
variable {P:Program} {U I0:Nat→Prop} {H:Nat→Option Blk} {w:World} {I:Nat→Prop} {ι:Nat→Option Img} {id:Nat}
theorem zeroOk_spec {T:Nat} {z:V} (h:zeroOk P T z=true):∃c i,P.info? T=some i∧i.zero=some c∧Imm w I z c.cells.toList∧szO P T=some z.sz∧
  (if z.isAgg then ∃cs,c=.agg cs else isCell c=true):=by
 unfold zeroOk at h
 split at h
 ·rename_i c l hc hl
  simp only [Bool.and_eq_true,beq_iff_eq] at h
  obtain ⟨⟨h1,h2⟩,h3⟩:=h
  have e:=sameCells_eq h1
  cases hi:P.info? T with
  |none=>simp [hi] at hc
  |some i=>
   simp [hi] at hc
   refine ⟨c,i,rfl,hc,by rw [e];exact flat_imm z hl,h2, ?_⟩
   cases z<;>cases c<;>simp_all [V.isAgg,Value.oneCell']
 ·cases h
theorem run_zero {T:Nat} {c:Value} {i:TypeInfo} (hi:P.info? T=some i) (hz:i.zero=some c):(zeroValue T).run P w=.ok c w:=by
 simp [zeroValue,typeInfo,hi,hz]
theorem slot_cells {v:V} {cv:Value} (h:Slot w I ι H v cv) (hb:v.boxy=true):Rep w I ι H v cv.cells.toList∧(∀c∈cv.cells.toList,isCell c=true):=by
 have key:Rep w I ι H v cv.cells.toList:=by
  cases v<;>simp only [V.boxy,Bool.false_eq_true] at hb
  case agg vs=>
   obtain ⟨cs,rfl,hr⟩:=h
   simpa [Value.cells] using hr
  all_goals
   have hr:Rep w I ι H _ [cv]:=h
   have hc:=hr.cells cv (by simp)
   have:cv.cells.toList=[cv]:=by cases cv<;>simp_all [Value.cells,Value.oneCell']
   rw [this];exact hr
 exact ⟨key,key.cells⟩
theorem does_allocV (hm:MRel P U I0 H w I ι) (hid:ι id=none) (T:Nat) (h:(allocV P id T).ok):
  Does P U I0 H w I ι id (allocV P id T) (do pure (.value (←Instr.alloc T true (.tuple #[])))):=by
 obtain ⟨c,i,h1,h2,h3,h4,h5⟩:=zeroOk_spec (w:=w) (I:=I) h
 let w':World:={ w with heap:=w.heap.push (.cells c.cells T) }
 have hp:w'.heap=w.heap.push (.cells c.cells T):=rfl
 obtain ⟨k1,k2,k3⟩:=new_block (P:=P) (U:=U) (I0:=I0) hm hid (w':=w') hp ⟨rfl,rfl,rfl⟩ (blk:=⟨none,false,zeroT P T⟩) (cap:=0) (a:=false) rfl (fun hk hg=>
  ⟨_,setO_same _ _ _,rfl,w.heap.size,c.cells.toList,rfl,⟨T,(0,0),by rw [heap_push_new hp],⟨Nat.le_refl _,fun o _ h=>by simp at h⟩,h3.cells⟩,.imm (h3.mono hk (fun _ h=>h))⟩)
 refine ⟨_,.pointer (some ⟨w.heap.size,0,none⟩),w',I,_, ?_,.inl rfl,trivial,Rep.ptr (setO_same _ _ _), ?_, ?_,k3⟩
 ·simp only [Sem.run_bind,Instr.alloc,run_zero h1 h2,Result.andThen_ok,newVar,newRow,run_newObj,Sem.run_pure]
  rfl
 ·show MRel P U I0 (over H [(id,_)]) _ _ _
  rw [zG,over_nil];exact k1
 ·show MGo U I I ι _ H (over H [(id,_)]) _ _
  rw [zG,over_nil];exact k2
theorem does_boxV (hm:MRel P U I0 H w I ι) (hid:ι id=none) (T:Nat) {x:V} {cx:Value} (hx:Slot w I ι H x cx) (h:(boxV P id T x).ok):
  Does P U I0 H w I ι id (boxV P id T x) (do pure (.value (←Instr.box T cx))):=by
 obtain ⟨h1,h2⟩:=slot_cells hx h
 let w':World:={ w with heap:=w.heap.push (.cells cx.cells T) }
 have hp:w'.heap=w.heap.push (.cells cx.cells T):=rfl
 obtain ⟨k1,k2,k3⟩:=new_block (P:=P) (U:=U) (I0:=I0) hm hid (w':=w') hp ⟨rfl,rfl,rfl⟩ (blk:=⟨none,false,x⟩) (cap:=0) (a:=false) rfl (fun hk hg=>
  ⟨_,setO_same _ _ _,rfl,w.heap.size,cx.cells.toList,rfl,⟨T,(0,0),by rw [heap_push_new hp],⟨Nat.le_refl _,fun o _ h=>by simp at h⟩,h2⟩,h1.mono hk (fun _ h=>h) hg⟩)
 refine ⟨_,.pointer (some ⟨w.heap.size,0,none⟩),w',I,_, ?_,.inl rfl,trivial,Rep.ptr (setO_same _ _ _), ?_, ?_,k3⟩
 ·simp only [Sem.run_bind,Instr.box,Result.andThen_ok,newVar,newRow,run_newObj,Sem.run_pure]
  rfl
 ·show MRel P U I0 (over H [(id,_)]) _ _ _
  rw [zG,over_nil];exact k1
 ·show MGo U I I ι _ H (over H [(id,_)]) _ _
  rw [zG,over_nil];exact k2
theorem Imm.list_weak {c:Bool} {vs:List V} {cs:List Value} (h:Imm w I (.list c vs) cs):Imm w I (.list false vs) cs:=by
 cases h with
 |list a b c d e f=>exact .list a b (fun h=>by cases h) d e f
theorem imm_nils:Imm w I (.list false []) [.slice none 0 0]:=
 .list (a:=none) (cap:=0) (sz:=0) (part:=fun _=>[]) (by simp) (by simp) (fun h=>by cases h) (fun h=>absurd rfl h) (fun i h=>by simp at h) (fun i v h=>by simp at h)
mutual
theorem pure_rep {l:List Nat} {I':Nat→Prop} (hm:MRel P U I0 H w I ι) (hsub:∀b,I b→I' b)
  (hfz:∀i b m x,i∈l→H i=some b→ι i=some m→m.b=some x→I' x):
  ∀(v:V) {cs:List Value},(∀i∈(pureV H v).fz,i∈l)→Rep w I ι H v cs→(pureV H v).ok→Imm w I' (pureV H v).v cs
 | .int k n,cs,_,h,_=>by rw [h.int_inv];exact .int
 | .bool b,cs,_,h,_=>by rw [h.bool_inv];exact .bool
 | .str s,cs,_,h,_=>by rw [h.str_inv.1];exact .str h.str_inv.2
 | .nils,cs,_,h,_=>by rw [h.nils_inv];exact imm_nils
 | .nilp,cs,_,h,_=>by rw [h.nilp_inv];exact .nilp
 | .list c vs,cs,_,h,_=>(h.list_inv.list_weak).mono (keep.refl _) hsub
 | .dptr v,cs,_,h,_=>by
  cases h with
  |imm h=>exact h.mono (keep.refl _) hsub
 | .fn f caps,cs,hl,h,hok=>by
  simp only [pureV] at hl hok ⊢
  have hlen:(pureVs H caps).2.1.length=caps.length:=pureVs_length caps
  have key:∀(g:Nat→Value),(∀i v,caps[i]? =some v→Rep w I ι H v [g i])→cs=[.func (.func f) #[] ((List.range caps.length).map g).toArray]→Imm w I' (.fn f (pureVs H caps).2.1) cs:=by
   intro g hp e
   have:=pures_rep hm hsub hfz caps (fun i=>[g i]) hl hp hok
   rw [e,←hlen]
   exact .fn this
  cases h with
  |imm h=>cases h with
   |fn h=>exact key _ (fun i v hv=>.imm (h i v hv)) rfl
  |fn h=>exact key _ h rfl
 | .ptr i off p,cs,hl,h,hok=>by
  simp only [pureV] at hl hok ⊢
  split at hok
  ·rename_i e1 e2
   split at hok
   ·rename_i fz t hH
    have hl:=hl i (by simp [hH])
    have hok:flat t=true:=hok
    cases h with
    |imm h=>cases h
    |ptr h=>
     rename_i b cap
     obtain ⟨img,g1,g2,b',cs',k1,k2,k3⟩:=hm.heap i _ hH
     rw [h] at g1
     cases g1
     cases k1
     have hi:Imm w I t cs':=by
      cases t<;>first|(cases hok;done)|skip
      all_goals (cases k3 with|imm h=>exact h)
     exact .dptr (hfz i _ _ b hl hH h rfl) (fun j c hj=>by rw [Nat.zero_add,blk_cell k2];exact hj) (hi.mono (keep.refl _) hsub)
   ·exact hok.elim
  ·exact hok.elim
 | .agg vs,cs,hl,h,hok=>by
  obtain ⟨part,rfl,hp⟩:=h.agg_inv
  simp only [pureV] at hl hok ⊢
  have:=pures_rep hm hsub hfz vs part hl hp hok
  have hlen:(pureVs H vs).2.1.length=vs.length:=pureVs_length vs
  rw [←hlen]
  exact .agg this
 | .sl i len,cs,hl,h,hok=>by
  simp only [pureV] at hl hok ⊢
  cases hH:H i with
  |none=>simp [hH] at hok
  |some blk=>
   obtain ⟨arr,fz,t⟩:=blk
   cases arr with
   |none=>simp [hH] at hok
   |some E=>
    cases t with
    |agg rows=>
     simp only [hH] at hl hok ⊢
     obtain ⟨c,img,rfl,hi,hr⟩:=h.sl_inv
     have e:=(hr E fz rows hH).2 hok
     have harr:=arr_of hm hi hH
     have hs:=seq_arr harr
     subst e
     rw [hok]
     cases hb:img.b with
     |none=>
      have:rows=[]:=by
       rcases rows with _|⟨r,q⟩
       ·rfl
       ·obtain ⟨q1,q2,q3⟩:=harr
        rw [hb] at q3
        have q3:img.cap=0:=q3
        simp at q1;omega
      subst this
      exact .list (a:=none) (sz:=0) (part:=fun _=>[]) hs.le hs.cap (fun h=>by cases h) (fun h=>absurd rfl h) (fun i h=>by simp at h) (fun i v h=>by simp at h)
     |some b=>
      obtain ⟨front,spare,part,k1,k2,k3,k4,k5⟩:=arr_front harr hb
      refine .list (sz:=P.cellsOf E) (part:=part) hs.le hs.cap (fun h=>by cases h) (fun hne=>⟨⟨b,0,none⟩,rfl,rfl,hfz i _ img b (hl i (by simp)) hH hi hb, ?_⟩) k4 (fun j v hv=>(k3 j v hv).mono (keep.refl _) hsub)
      exact cellsAt_part k4 (k2▸cellsAt_front k1)
    |_=>simp [hH] at hok
 | .tup _,_,_,_,h=>by simp [pureV] at h
 | .eptr _ _ _ _,_,_,_,h=>by simp [pureV] at h
 | .own e l,cs,hl,h,hok=>by
  simp only [pureV] at hl hok ⊢
  split at hok
  ·cases h with
   |imm h=>exact h.mono (keep.refl _) hsub
  ·cases h with
   |imm h=>exact h.mono (keep.refl _) hsub
  ·cases h with
   |imm h=>exact h.mono (keep.refl _) hsub
  ·rename_i i off p
   split at hok
   ·split at hok
    ·rename_i E fz E2 es hH
     have hl:=hl i (by simp [hH])
     simp only [hH]
     cases h with
     |imm h=>cases h
     |mp hi=>
      rename_i b cap
      obtain ⟨img,g1,g2,g3⟩:=hm.heap i _ hH
      rw [hi] at g1;cases g1
      rcases g3 with ⟨rows,e,_⟩|⟨es2,b2,e1,e2,ens,clock,ks,vs,part,h1,h2,h3,h0,h4,h5,h6⟩
      ·cases e
      ·cases e1;cases e2
       exact .mp (hfz i _ _ b hl hH hi rfl) h1 h2 h3 h0 h4 h5 (fun j hj=>(h6 j hj).mono (keep.refl _) hsub)
    ·exact hok.elim
   ·exact hok.elim
  ·exact hok.elim
 | .nbox _,_,_,_,h=>by simp [pureV] at h
 | .gd _ _,_,_,_,h=>by simp [pureV] at h
 | .junk,_,_,_,h=>by simp [pureV] at h
theorem pures_rep {l:List Nat} {I':Nat→Prop} (hm:MRel P U I0 H w I ι) (hsub:∀b,I b→I' b)
  (hfz:∀i b m x,i∈l→H i=some b→ι i=some m→m.b=some x→I' x):
  ∀(vs:List V) (part:Nat→List Value),(∀i∈(pureVs H vs).2.2,i∈l)→(∀i v,vs[i]? =some v→Rep w I ι H v (part i))→(pureVs H vs).1→
   ∀i v,(pureVs H vs).2.1[i]? =some v→Imm w I' v (part i)
 |[],part,_,_,_,i,v,hv=>by simp [pureVs] at hv
 |u::r,part,hl,h,hok,i,v,hv=>by
  simp only [pureVs] at hl hok hv
  cases i with
  |zero=>
   simp at hv;subst hv
   exact pure_rep hm hsub hfz u (fun j hj=>hl j (by simp [hj])) (h 0 u rfl) hok.1
  |succ i=>
   exact pures_rep hm hsub hfz r (fun i=>part (i+1)) (fun j hj=>hl j (by simp [hj])) (fun i v hv=>h (i+1) v (by simpa using hv)) hok.2 i v (by simpa using hv)
theorem pureVs_length:∀(vs:List V),(pureVs H vs).2.1.length=vs.length
 |[]=>rfl
 |v::r=>by simp [pureVs,pureVs_length r]
end
end
open Go
theorem fold_put (off:Nat):∀(xs:List Value) (s:Nat) (cells:Array Value),off+s+xs.length≤cells.size→
  ((xs.zipIdx s).foldl (fun (cs:Array Value) (p:Value×Nat)=>cs.setIfInBounds (off+p.2) p.1) cells).toList=cells.toList.take (off+s)++xs++cells.toList.drop (off+s+xs.length)
 |[],s,cells,h=>by simp
 |x::r,s,cells,h=>by
  simp only [List.length_cons] at h
  rw [List.zipIdx_cons,List.foldl_cons,fold_put off r (s+1) _ (by simp;omega)]
  simp only [Array.toList_setIfInBounds]
  have hlt:off+s<cells.toList.length:=by simp;omega
  have hset:cells.toList.set (off+s) x=cells.toList.take (off+s)++x::cells.toList.drop (off+s+1):=by
   rw [List.set_eq_take_append_cons_drop,if_pos hlt]
  rw [hset]
  have hlen:(cells.toList.take (off+s)).length=off+s:=by simp;omega
  rw [List.take_append,List.drop_append,hlen,List.take_of_length_le (by rw [hlen];omega),List.drop_of_length_le (l:=cells.toList.take (off+s)) (by rw [hlen];omega)]
  simp only [show off+(s+1)-(off+s)=1 by omega,List.take_succ_cons,List.take_zero,show off+(s+1)+r.length-(off+s)=r.length+1 by omega,List.drop_succ_cons,List.drop_drop,List.length_cons]
  simp [show off+s+(r.length+1)=off+s+1+r.length by omega]
theorem fold_put_arr (off:Nat) (xs cells:Array Value) (h:off+xs.size≤cells.size):
  (xs.zipIdx.foldl (fun (cs:Array Value) (p:Value×Nat)=>cs.setIfInBounds (off+p.2) p.1) cells).toList=cells.toList.take off++xs.toList++cells.toList.drop (off+xs.size):=by
 rw [←Array.foldl_toList,Array.toList_zipIdx,fold_put off xs.toList 0 cells (by simpa using h)]
 simp
theorem setCells_env (b:Nat):∀(vs:List Value) (o:Nat) (w:World),(w.setCells b o vs).os=w.os∧(w.setCells b o vs).tape=w.tape∧(w.setCells b o vs).output=w.output
 |[],o,w=>⟨rfl,rfl,rfl⟩
 |v::r,o,w=>by
  have h:=setCells_env b r (o+1) (w.setCell ⟨b,o,none⟩ v)
  exact h
structure TreeR (R:V→List Value→Prop):Prop where
 inv:∀vs cs,R (.agg vs) cs→∃part:Nat→List Value,cs=(List.range vs.length).flatMap part∧∀i v,vs[i]? =some v→R v (part i)
 bld:∀vs (part:Nat→List Value),(∀i v,vs[i]? =some v→R v (part i))→R (.agg vs) ((List.range vs.length).flatMap part)
 size:∀v cs,R v cs→cs.length=v.sz
theorem TreeR.put {R:V→List Value→Prop} (hR:TreeR R) {zs:List V} {cs xs:List Value} {k:Nat} {z x:V} (h:R (.agg zs) cs) (hk:zs[k]? =some z) (hx:R x xs):
  ∃pre mid post,cs=pre++mid++post∧pre.length=V.szs (zs.take k)∧mid.length=z.sz∧R (.agg (zs.set k x)) (pre++xs++post):=by
 obtain ⟨part,rfl,hp⟩:=hR.inv _ _ h
 obtain ⟨pre,post,e1,e2,e3⟩:=parts_split zs part k z hk
 have hlt:k<zs.length:=(List.getElem?_eq_some_iff.1 hk).1
 refine ⟨pre,part k,post,e1, ?_,hR.size _ _ (hp k z hk), ?_⟩
 ·rw [e2,szs_take zs part (fun i v hv=>hR.size _ _ (hp i v hv)) k (by omega)]
 ·let part':Nat→List Value:=fun i=>if i=k then xs else part i
  have hne:∀i,i≠k→part' i=part i:=fun i hi=>by simp [part',hi]
  have e:=e3 part' hne
  have ek:part' k=xs:=by simp [part']
  rw [ek] at e
  have e':pre++xs++post=(List.range (zs.set k x).length).flatMap part':=by rw [List.length_set,e]
  rw [e']
  refine hR.bld _ _ fun i v hv=>?_
  rw [List.getElem?_set] at hv
  by_cases hik:k=i
  ·subst hik
   simp [hlt] at hv;subst hv
   rw [ek];exact hx
  ·rw [if_neg hik] at hv
   rw [hne i (fun h=>hik h.symm)]
   exact hp i v hv
theorem fill_putParts {P:Program} {R:V→List Value→Prop} (hR:TreeR R) {off szp:Nat→Option Nat} {place:Nat→Option (Nat×Nat)} (hpl:∀k o s,off k=some o→szp k=some s→place k=some (o,s)):
  ∀(parts:List (Nat×V)) (cvs:List Value) (zs:List V) (cs:Array Value),parts.length=cvs.length→(∀(j:Nat) (k:Nat) (x:V) (cv:Value),parts[j]? =some (k,x)→cvs[j]? =some cv→x.boxy=true→R x cv.cells.toList)→
   (putParts P off szp parts zs).1→R (.agg zs) cs.toList→
   ∃cs',Instr.fill place cs ((parts.map (·.1)).zip cvs)=some cs'∧R (.agg (putParts P off szp parts zs).2) cs'.toList∧(putParts P off szp parts zs).2.length=zs.length
 |[],cvs,zs,cs,_,_,_,h=>⟨cs,by simp [Instr.fill],h,rfl⟩
 |(k,x)::r,cvs,zs,cs,hl,hv,hok,h=>by
  match cvs,hl with
  |cv::cr,hl=>
   simp only [putParts] at hok ⊢
   cases hz:zs[k]? with
   |none=>simp [hz] at hok
   |some z=>
    cases ho:off k with
    |none=>simp [hz,ho] at hok
    |some o=>
     cases hs:szp k with
     |none=>simp [hz,ho,hs] at hok
     |some s=>
      simp only [hz,ho,hs] at hok ⊢
      obtain ⟨⟨q1,q2,q3,q4⟩,q5⟩:=hok
      have hx:R x cv.cells.toList:=hv 0 k x cv rfl rfl q4
      have hxs:=hR.size _ _ hx
      obtain ⟨pre,mid,post,e1,e2,e3,e4⟩:=hR.put h hz hx
      have hsz:cv.cells.size=x.sz:=by rw [←hxs];simp
      have hcs:cs.size=pre.length+mid.length+post.length:=by rw [←Array.length_toList,e1];simp;omega
      have hfold:=fold_put_arr o cv.cells cs (by omega)
      have hnew:cs.toList.take o++cv.cells.toList++cs.toList.drop (o+cv.cells.size)=pre++cv.cells.toList++post:=by
       rw [e1,q1,←e2,hsz,q3,←e3]
       simp [List.append_assoc,List.drop_append,List.take_append]
      have:=fill_putParts (P:=P) hR hpl r cr (zs.set k x) _ (by simpa using hl) (fun j k' x' cv' h1 h2=>hv (j+1) k' x' cv' (by simpa using h1) (by simpa using h2)) q5 (by rw [hfold,hnew];exact e4)
      obtain ⟨cs',f1,f2,f3⟩:=this
      refine ⟨cs', ?_,f2,by rw [f3];simp⟩
      simp only [List.map_cons,List.zip_cons_cons,Instr.fill,hpl k o s ho hs]
      rw [if_neg (by simp only [ne_eq,Bool.or_eq_true,decide_eq_true_eq];omega)]
      exact f1
  |[],hl=>simp at hl
section
variable {P:Program} {U I0:Nat→Prop} {H:Nat→Option Blk} {w:World} {I:Nat→Prop} {ι:Nat→Option Img} {id:Nat}
theorem treeR_rep:TreeR (Rep w I ι H):=⟨fun _ _ h=>h.agg_inv,fun _ _ h=>.agg h,fun _ _ h=>h.size⟩
theorem treeR_imm:TreeR (Imm w I):=⟨fun _ _ h=>h.agg_inv,fun _ _ h=>.agg h,fun _ _ h=>h.size⟩
theorem upd_sz {x:V} {p:List Nat}:∀{v u:V},v.sub p=some u→x.sz=u.sz→(V.upd x v p).sz=v.sz:=by
 induction p with
 |nil=>intro v u h hs;simp only [V.sub,Option.some.injEq] at h;subst h;exact hs
 |cons k p ih=>
  intro v u h hs
  cases v with
  |agg vs=>
   simp only [V.sub] at h
   cases hk:vs[k]? with
   |none=>simp [hk] at h
   |some v1=>
    rw [hk] at h
    simp only [V.upd,hk,V.sz]
    have:=ih h hs
    have hlt:k<vs.length:=(List.getElem?_eq_some_iff.1 hk).1
    have key:∀(vs:List V) (k:Nat) (v1 y:V),vs[k]? =some v1→y.sz=v1.sz→V.szs (vs.set k y)=V.szs vs:=by
     intro vs
     induction vs with
     |nil=>intro k v1 y h _;simp at h
     |cons a r ih2=>
      intro k v1 y h hy
      cases k with
      |zero=>simp at h;subst h;simp [V.szs,hy]
      |succ k=>simp only [List.set_cons_succ,V.szs];rw [ih2 k v1 y (by simpa using h) hy]
    exact key vs k v1 _ hk this
  |_=>simp [V.sub] at h
theorem does_storeV (hm:MRel P U I0 H w I ι) (T:Nat) {x a:V} {cx ca:Value} (hx:Slot w I ι H x cx) (ha:Slot w I ι H a ca) (h:(storeV P H T x a).ok):
  Does P U I0 H w I ι id (storeV P H T x a) (do Instr.storeAt T ca cx;pure .skip):=by
 unfold storeV at h ⊢
 split at h
 ·rename_i i off p
  obtain ⟨b,cap,hi,hc⟩:=Rep.ptr_inv ha
  have hc:ca=.pointer (some ⟨b,off,none⟩):=by simpa using hc
  subst hc
  split at h
  ·rename_i t hH
   obtain ⟨cs,e2,e3⟩:=box_of hm hi hH
   split at h
   ·rename_i u hu
    obtain ⟨l1,l2,l3,l4⟩:=h
    obtain ⟨pre,mid,post,q1,q2,q3,q4⟩:=e3.sub hu
    obtain ⟨r1,r2⟩:=slot_cells hx l2
    have hlen:cx.cells.toList.length=mid.length:=by rw [r1.size,q3.size,l3]
    have hoff:pre.length=off:=by rw [q2,l1]
    have hle:off+cx.cells.toList.length≤cs.length:=by rw [q1];simp;simp at hlen;omega
    have hput:=blk_put e2 hle r2
    have hnew:cs.take off++cx.cells.toList++cs.drop (off+cx.cells.toList.length)=pre++cx.cells.toList++post:=by
     rw [hlen,q1,←hoff];simp [List.append_assoc,List.drop_append]
    rw [hnew] at hput
    have hrun:=run_storeVar_blk (P:=P) (w:=w) (T:=T) (v:=cx) e2 hle r2 (by rw [l4,r1.size]) rfl
    have hg:HGo ι ι H (setO H i ⟨none,false,V.upd x t p⟩):=by
     intro j img hj
     refine ⟨img,hj,fun _=>rfl,fun E fz rows hr=>?_⟩
     by_cases hji:j=i
     ·subst hji;rw [setO_same] at hr;cases hr
     ·rw [zV _ _ hji] at hr;exact ⟨E,fz,rows,hr,Nat.le_refl _,fun _=>rfl⟩
    have hput2:=put_block (P:=P) (U:=U) (I0:=I0) hm hH rfl hi rfl (w':=w.setCells b off cx.cells.toList) (blk':=⟨none,false,V.upd x t p⟩)
     (fun k hk=>setCells_heap_ne b _ off w k hk) (setCells_size b _ off w) (setCells_env b _ off w) rfl hg
     (fun hk=>⟨_,hi,rfl,b,_,rfl,hput,(q4 x _ r1).mono hk (fun _ h=>h) hg⟩)
    refine ⟨.skip,undef,w.setCells b off cx.cells.toList,I,ι, ?_,.inr ⟨rfl,rfl⟩,trivial,trivial, ?_, ?_,fun _ _ h=>h⟩
    ·simp only [Sem.run_bind,Instr.storeAt,Instr.sureAddr,Sem.run_pure,Result.andThen_ok,hrun]
    ·show MRel P U I0 (over H [(i,_)]) _ _ _
     rw [zG,over_nil];exact hput2.1
    ·show MGo U I I ι _ H (over H [(i,_)]) _ _
     rw [zG,over_nil];exact hput2.2
   ·exact h.elim
  ·exact h.elim
 ·rename_i i len off p
  obtain ⟨c,img,hc,hi,hr⟩:=Rep.eptr_inv ha
  have hc:ca=c:=by simpa using hc
  subst hc
  split at h
  ·rename_i E rows hH
   split at h
   ·rename_i u hu
    obtain ⟨l0,l1,l2,l3,l4,l5,l6,l7⟩:=h
    obtain ⟨b,hb,rfl⟩:=(hr E false rows hH).2 l0
    obtain ⟨k,q,rfl⟩:∃k q,p=k::q:=by
     cases p with
     |nil=>exact absurd rfl l1
     |cons k q=>exact ⟨k,q,rfl⟩
    have hxb:x.boxy=true:=by
     cases x<;>first|rfl|(simp [pureV] at l3)
    obtain ⟨r1,r2⟩:=slot_cells hx hxb
    obtain ⟨I',a0,a1,a2,a3⟩:=freeze_all hm (pureV H x).fz
    have hpx:Imm w I' (pureV H x).v cx.cells.toList:=pure_rep hm a3.sub a1 x (fun j hj=>hj) r1 l3
    have hH1:over H (frz H (pureV H x).fz) i=some ⟨some E,false,.agg rows⟩:=by
     have:∀l:List Nat,i∉l→over H (frz H l) i=H i:=by
      intro l
      induction l with
      |nil=>intro _;rfl
      |cons j r ih=>
       intro hn
       simp only [List.mem_cons,not_or] at hn
       simp only [frz]
       cases hj:H j with
       |none=>exact ih hn.2
       |some bj=>
        simp only
        cases hbf:bj.fz with
        |true=>exact ih hn.2
        |false=>simp only;rw [zG,zV _ _ hn.1];exact ih hn.2
     rw [this _ l7,hH]
    have harr:=arr_of a2 hi hH1
    obtain ⟨h1,h2,h3⟩:=harr
    rw [hb] at h3
    obtain ⟨front,spare,k1,k2,k3,k4⟩:=h3
    obtain ⟨pre,mid,post,q1,q2,q3,q4⟩:=k2.sub hu
    have k1':BlkAt w b (pre++mid++(post++spare)):=by rw [q1] at k1;simpa using k1
    have hlen:cx.cells.toList.length=mid.length:=by rw [hpx.size,q3.size,l4]
    have hoff:pre.length=off:=by rw [q2,l2]
    have hle:off+cx.cells.toList.length≤(pre++mid++(post++spare)).length:=by simp;simp at hlen;omega
    have hput:=blk_put k1' hle r2
    have hnew:(pre++mid++(post++spare)).take off++cx.cells.toList++(pre++mid++(post++spare)).drop (off+cx.cells.toList.length)=(pre++cx.cells.toList++post)++spare:=by
     rw [hlen,←hoff];simp [List.append_assoc,List.drop_append]
    rw [hnew] at hput
    have hrun:=run_storeVar_blk (P:=P) (w:=w) (T:=T) (v:=cx) k1' hle r2 (by rw [l6,r1.size]) rfl
    have himm:=q4 _ _ hpx
    obtain ⟨rows',hrows,hrl,hrs⟩:∃rows',V.upd (pureV H x).v (.agg rows) (k::q)=.agg rows'∧rows'.length=rows.length∧∀r∈rows',r.sz=P.cellsOf E:=by
     simp only [V.upd]
     simp only [V.sub] at hu
     cases hk:rows[k]? with
     |none=>simp [hk] at hu
     |some r1=>
      rw [hk] at hu
      refine ⟨_,rfl,by simp,fun r hr=>?_⟩
      rcases List.mem_or_eq_of_mem_set hr with hr|hr
      ·exact k4 r hr
      ·rw [hr,upd_sz hu l4];exact k4 _ (List.mem_of_getElem? hk)
    have hg:HGo ι ι (over H (frz H (pureV H x).fz)) (setO (over H (frz H (pureV H x).fz)) i ⟨some E,false,V.upd (pureV H x).v (.agg rows) (k::q)⟩):=by
     intro j img' hj
     refine ⟨img',hj,fun _=>rfl,fun E' fz rws hr=>?_⟩
     by_cases hji:j=i
     ·subst hji;rw [setO_same] at hr
      rw [hrows] at hr
      simp only [Option.some.injEq,Blk.mk.injEq,V.agg.injEq] at hr
      obtain ⟨rfl,rfl,rfl⟩:=hr
      exact ⟨E,false,rows,hH1,by omega,fun _=>rfl⟩
     ·rw [zV _ _ hji] at hr;exact ⟨E',fz,rws,hr,Nat.le_refl _,fun _=>rfl⟩
    have hput2:=put_block (P:=P) (U:=U) (I0:=I0) a2 hH1 rfl hi hb (w':=w.setCells b off cx.cells.toList) (blk':=⟨some E,false,V.upd (pureV H x).v (.agg rows) (k::q)⟩)
     (fun k hk=>setCells_heap_ne b _ off w k hk) (setCells_size b _ off w) (setCells_env b _ off w) rfl hg
     (fun hk=>by
      obtain ⟨img2,g1,g2,_⟩:=a2.heap _ _ hH1
      rw [hi] at g1;cases g1
      refine ⟨img,hi,by rw [g2,hrows];rfl,.inl ⟨rows',hrows,by omega,h2, ?_⟩⟩
      rw [hb]
      rw [hrows] at himm
      refine ⟨_,spare,hput,himm.mono hk (fun _ h=>h), ?_,hrs⟩
      rw [←k3,q1];simp;simp at hlen;omega)
    refine ⟨.skip,undef,w.setCells b off cx.cells.toList,I',ι, ?_,.inr ⟨rfl,rfl⟩,trivial,trivial, ?_, ?_,fun _ _ h=>h⟩
    ·simp only [Sem.run_bind,Instr.storeAt,Instr.sureAddr,Sem.run_pure,Result.andThen_ok,hrun]
    ·show MRel P U I0 (over H ((i,_)::frz H _)) _ _ _
     rw [zG];exact hput2.1
    ·show MGo U I I' ι _ H (over H ((i,_)::frz H _)) _ _
     rw [zG];exact a3.trans hput2.2
   ·exact h.elim
  ·exact h.elim
 ·exact h.elim
end
open Go
theorem flat_const_length (l:List Value) (n:Nat):((List.range n).flatMap fun _=>l).length=n*l.length:=by
 induction n with
 |zero=>simp
 |succ n ih=>rw [List.range_succ,List.flatMap_append,List.length_append,ih];simp [Nat.succ_mul]
theorem made_split (z:Array Value) (n:Nat):(madeCells z (n*z.size)).toList=(List.range n).flatMap (fun _=>z.toList):=by
 apply List.ext_getElem?
 intro k
 by_cases hk:k<n*z.size
 ·have hz:0<z.size:=by
   rcases Nat.eq_zero_or_pos z.size with h|h
   ·rw [h] at hk;omega
   ·exact h
  have h1:k / z.size<n:=(Nat.div_lt_iff_lt_mul hz).2 hk
  have h2:k % z.size<z.size:=Nat.mod_lt _ hz
  have e:k=k / z.size*z.size+k % z.size:=by rw [Nat.mul_comm];exact (Nat.div_add_mod k z.size).symm
  have:=flat_at (part:=fun _=>z.toList) (z:=z.size) n (fun _ _=>by simp) (k / z.size) h1 (k % z.size) h2
  rw [←e] at this
  rw [this]
  have hb:(z[k % z.size]!:Value)=z[k % z.size]:=getElem!_pos z _ h2
  simp [madeCells,hk,h2,hb]
 ·rw [List.getElem?_eq_none (by simp [madeCells];omega),List.getElem?_eq_none (by rw [flat_const_length];simp;omega)]
section
variable {P:Program} {U I0:Nat→Prop} {H:Nat→Option Blk} {w:World} {I:Nat→Prop} {ι:Nat→Option Img} {id:Nat}
theorem imm_replicate {z:V} {l:List Value} (h:Imm w I z l) (n:Nat):Imm w I (.agg (List.replicate n z)) ((List.range n).flatMap fun _=>l):=by
 have:Imm w I (.agg (List.replicate n z)) ((List.range (List.replicate n z).length).flatMap fun _=>l):=.agg fun i v hv=>by
  have:v=z:=by
   obtain ⟨h1,h2⟩:=List.getElem?_eq_some_iff.1 hv
   simpa using h2.symm
  rw [this];exact h
 simpa using this
theorem mapM_some_of {α β:Type} {f:α→Option β} (g:α→β):∀(l:List α),(∀x∈l,f x=some (g x))→l.mapM f=some (l.map g)
 |[],_=>by simp
 |x::r,h=>by
  simp [List.mapM_cons,h x (by simp),mapM_some_of g r fun y hy=>h y (by simp [hy])]
theorem does_buildV (hm:MRel P U I0 H w I ι) (T:Nat) (ps:List (Nat×V)) (cvs:List Value) (arr:Array (Nat×Value)) (hl:ps.length=cvs.length) (ha:arr.toList=(ps.map (·.1)).zip cvs)
  (hv:∀(j:Nat) (k:Nat) (x:V) (cv:Value),ps[j]? =some (k,x)→cvs[j]? =some cv→Slot w I ι H x cv) (h:(buildV P T ps).ok):
  Does P U I0 H w I ι id (buildV P T ps) (do pure (.value (←Instr.build T arr))):=by
 unfold buildV at h ⊢
 split at h
 ·rename_i zs hz
  have hvr:∀(j:Nat) (k:Nat) (x:V) (cv:Value),ps[j]? =some (k,x)→cvs[j]? =some cv→x.boxy=true→Rep w I ι H x cv.cells.toList:=
   fun j k x cv h1 h2 h3=>(slot_cells (hv j k x cv h1 h2) h3).1
  split at h
  ·rename_i n E hT
   split at h
   ·rename_i z hE
    obtain ⟨k1,k2⟩:=h
    obtain ⟨c,i,h1,h2,h3,h4,h5⟩:=zeroOk_spec (w:=w) (I:=I) k1
    obtain ⟨cs',f1,f2,f3⟩:=fill_putParts (P:=P) (R:=Rep w I ι H) treeR_rep (off:=fun k=>some (k*z)) (szp:=fun _=>some z) (place:=fun i=>some (i*z,z))
     (fun k o s a b=>by cases a;cases b;rfl) ps cvs zs c.cells hl hvr k2 (.imm h3)
    have hb:P.built T arr.toList=some cs':=by
     obtain ⟨ie,e1,e2⟩:=info_of_sz hE
     simp only [Program.built,h1,h2,arrT_und hT,e1,e2,ha,f1]
    refine does_pure hm (run_build w T arr cs' hb) trivial ?_
    exact ⟨cs',rfl,f2⟩
   ·exact h.elim
  ·rename_i hT
   obtain ⟨k1,k0,k2⟩:=h
   obtain ⟨c,i,h1,h2,h3,h4,h5⟩:=zeroOk_spec (w:=w) (I:=I) k1
   unfold fldsOk at k0
   split at k0
   ·rename_i fs hfs
    have hm1:fs.toList.mapM (fun f=>(P.info? f.type).map fun i=>(f.offset,i.size))=some (fs.toList.map fun f=>(f.offset,P.cellsOf f.type)):=by
     refine mapM_some_of _ _ fun f hf=>?_
     have:=List.all_eq_true.1 k0 f hf
     obtain ⟨s,hs⟩:=Option.isSome_iff_exists.1 this
     obtain ⟨i,e1,e2⟩:=info_of_sz hs
     rw [cellsOf_sz hs,e1,←e2];rfl
    obtain ⟨cs',f1,f2,f3⟩:=fill_putParts (P:=P) (R:=Rep w I ι H) treeR_rep (off:=fOff P T) (szp:=fun k=>(fTy P T k).bind (szO P)) (place:=((fs.toList.map fun f=>(f.offset,P.cellsOf f.type)).toArray[·]?))
     (fun k o s a b=>by
      obtain ⟨fs',f,z,u1,u2,u3,u4⟩:=fOff_und a
      rw [hfs] at u1;cases u1
      obtain ⟨t,v1,v2⟩:=Option.bind_eq_some_iff.1 b
      obtain ⟨fs',f',u5,u6,u7⟩:=fTy_und v1
      rw [hfs] at u5;cases u5
      rw [u2] at u6;cases u6
      subst u7
      have:fs.toList[k]? =some f:=by simpa using u2
      simp [u2,u3,cellsOf_sz v2]) ps cvs zs c.cells hl hvr k2 (.imm h3)
    have hb:P.built T arr.toList=some cs':=by
     simp only [Program.built,h1,h2,hfs,hm1,ha,f1]
    refine does_pure hm (run_build w T arr cs' hb) trivial ?_
    exact ⟨cs',rfl,f2⟩
   ·cases k0
 ·exact h.elim
theorem does_buildSliceV (hm:MRel P U I0 H w I ι) (T n:Nat) (ps:List (Nat×V)) (cvs:List Value) (arr:Array (Nat×Value)) (hl:ps.length=cvs.length) (ha:arr.toList=(ps.map (·.1)).zip cvs)
  (hv:∀(j:Nat) (k:Nat) (x:V) (cv:Value),ps[j]? =some (k,x)→cvs[j]? =some cv→Slot w I ι H x cv) (h:(buildSliceV P H T n ps).ok):
  Does P U I0 H w I ι id (buildSliceV P H T n ps) (do pure (.value (←Instr.buildSlice T n arr))):=by
 unfold buildSliceV at h ⊢
 split at h
 ·rename_i E hT
  split at h
  ·rename_i z hE
   obtain ⟨k1,k2,k3,k4,k5,k6⟩:=h
   obtain ⟨I1,a0,a1,a2,a3⟩:=freeze_all hm (pureVs H (ps.map (·.2))).2.2
   obtain ⟨c,i,h1,h2,h3,h4,h5⟩:=zeroOk_spec (w:=w) (I:=I1) k4
   have hzs:z=(zeroT P E).sz:=by rw [hE] at h4;simpa using h4
   have hcs:c.cells.size=z:=by rw [hzs,←h3.size];simp
   obtain ⟨hnp,hps1⟩:((ps.map (·.1)).zip (pureVs H (ps.map (·.2))).2.1).length=cvs.length∧((ps.map (·.1)).zip (pureVs H (ps.map (·.2))).2.1).map (·.1)=ps.map (·.1):=by
    have:=pureVs_length (P:=P) (U:=U) (I0:=I0) (H:=H) (w:=w) (I:=I) (ι:=ι) (ps.map (·.2))
    refine ⟨by simp [this,hl], ?_⟩
    rw [List.map_fst_zip]
    simp [this]
   have hpart:∀(j:Nat) (k:Nat) (x:V) (cv:Value),((ps.map (·.1)).zip (pureVs H (ps.map (·.2))).2.1)[j]? =some (k,x)→cvs[j]? =some cv→x.boxy=true→Imm w I1 x cv.cells.toList:=by
    intro j k x cv hj hcv _
    rw [List.getElem?_zip_eq_some] at hj
    obtain ⟨hj1,hj2⟩:=hj
    have hcell:∀(i:Nat) (v:V),(ps.map (·.2))[i]? =some v→Rep w I ι H v ((cvs[i]?.getD undef).cells.toList):=by
     intro i v hi
     rw [List.getElem?_map] at hi
     obtain ⟨p,hp,rfl⟩:=Option.map_eq_some_iff.1 hi
     have hlt:i<cvs.length:=by rw [←hl];exact (List.getElem?_eq_some_iff.1 hp).1
     have hci:cvs[i]? =some cvs[i]:=List.getElem?_eq_getElem hlt
     rw [hci]
     have hs:=hv i p.1 p.2 cvs[i] (by simpa using hp) hci
     refine (slot_cells hs ?_).1
     have hok:(pureV H p.2).ok:=by
      have key:∀(l:List V),(pureVs H l).1→∀v∈l,(pureV H v).ok:=by
       intro l
       induction l with
       |nil=>intro _ v hv;cases hv
       |cons a r ih=>
        intro h v hv
        simp only [pureVs] at h
        rcases List.mem_cons.1 hv with rfl|hv
        ·exact h.1
        ·exact ih h.2 v hv
      exact key _ k5 _ (List.mem_map.2 ⟨p,List.mem_of_getElem? hp,rfl⟩)
     cases hpp:p.2<;>rw [hpp] at hok<;>first|rfl|(simp [pureV] at hok)
    have:=pures_rep hm a3.sub a1 (ps.map (·.2)) (fun i=>(cvs[i]?.getD undef).cells.toList) (fun i hi=>hi) hcell k5 j x hj2
    simpa [hcv] using this
   have hmade:(madeCells c.cells (n*z)).toList=(List.range n).flatMap fun _=>c.cells.toList:=by rw [←hcs];exact made_split _ _
   obtain ⟨cs',f1,f2,f3⟩:=fill_putParts (P:=P) (R:=Imm w I1) treeR_imm (off:=fun k=>some (k*z)) (szp:=fun _=>some z) (place:=fun i=>some (i*z,z))
    (fun k o s a b=>by cases a;cases b;rfl) _ cvs (List.replicate n (zeroT P E)) (madeCells c.cells (n*z)) hnp hpart k6 (by rw [hmade];exact imm_replicate h3 n)
   rw [hps1] at f1
   have hrun:(Instr.buildSlice T n arr).run P w=.ok (.slice (some ⟨w.heap.size,0,none⟩) n n) (w.alloc (.cells cs' E)):=by
    have hnb:¬(16777216<n*z):=by omega
    rw [←ha] at f1
    unfold madeCells at f1
    by_cases hn0:n*z=0
    ·rw [hn0,Array.range_zero'] at f1
     have f1':Instr.fill (fun i=>some (i*z,z)) #[] arr.toList=some cs':=by simpa using f1
     simp [Instr.buildSlice,run_underlying (elemT_und hT),run_sz hE,hnb,hn0,f1',newRow,Array.range_zero']
    ·simp [Instr.buildSlice,run_underlying (elemT_und hT),run_sz hE,hnb,hn0,run_zero h1 h2,f1,newRow]
   have hp:(w.alloc (.cells cs' E)).heap=w.heap.push (.cells cs' E):=rfl
   obtain ⟨b1,b2⟩:=new_imm (P:=P) (U:=U) (I0:=I0) (H:=over H (frz H (pureVs H (ps.map (·.2))).2.2)) (w:=w) (I:=I1) (ι:=ι) a2 hp ⟨rfl,rfl,rfl⟩
   have hblk:(w.alloc (.cells cs' E)).heap[w.heap.size]? =some (.cells cs' E):=heap_push_new hp
   have himm:Imm (w.alloc (.cells cs' E)) (fun b=>I1 b∨b=w.heap.size) (.agg (putParts P (fun k=>some (k*z)) (fun _=>some z) ((ps.map (·.1)).zip (pureVs H (ps.map (·.2))).2.1) (List.replicate n (zeroT P E))).2) cs'.toList:=f2.mono b2.kI b2.sub
   have hrl:(putParts P (fun k=>some (k*z)) (fun _=>some z) ((ps.map (·.1)).zip (pureVs H (ps.map (·.2))).2.1) (List.replicate n (zeroT P E))).2.length=n:=by rw [f3];simp
   have hrz:∀v∈(putParts P (fun k=>some (k*z)) (fun _=>some z) ((ps.map (·.1)).zip (pureVs H (ps.map (·.2))).2.1) (List.replicate n (zeroT P E))).2,v.sz=z:=by
    have key:∀(l:List (Nat×V)) (vs:List V),(putParts P (fun k=>some (k*z)) (fun _=>some z) l vs).1→(∀v∈vs,v.sz=z)→∀v∈(putParts P (fun k=>some (k*z)) (fun _=>some z) l vs).2,v.sz=z:=by
     intro l
     induction l with
     |nil=>intro vs _ hvs;exact hvs
     |cons p r ih=>
      obtain ⟨k,x⟩:=p
      intro vs h hvs
      simp only [putParts] at h ⊢
      cases hk:vs[k]? with
      |none=>simp [hk] at h
      |some u=>
       simp only [hk] at h ⊢
       refine ih _ h.2 fun v hv=>?_
       rcases List.mem_or_eq_of_mem_set hv with hv|rfl
       ·exact hvs v hv
       ·exact h.1.2.1.symm
    exact key _ _ k6 (fun v hv=>by rw [List.eq_of_mem_replicate hv];exact hzs.symm)
   generalize (putParts P (fun k=>some (k*z)) (fun _=>some z) ((ps.map (·.1)).zip (pureVs H (ps.map (·.2))).2.1) (List.replicate n (zeroT P E))).2=vs at himm hrl hrz ⊢
   obtain ⟨part,q1,q2⟩:=himm.agg_inv
   refine ⟨.value (.slice (some ⟨w.heap.size,0,none⟩) n n),_,_,_,ι,by simp [hrun],.inl rfl,trivial, ?_,b1,a3.trans b2,fun _ _ h=>h⟩
   refine Rep.imm ?_
   subst hrl
   have hpl:∀i,i<vs.length→(part i).length=z:=fun i hi=>by
    have:=q2 i vs[i] (by simp [hi])
    rw [this.size];exact hrz _ (by simp)
   refine .list (sz:=z) (part:=part) (Nat.le_refl _) k2 (fun _=>rfl) (fun _=>⟨_,rfl,rfl,.inr rfl, ?_⟩) hpl q2
   refine cellsAt_part (n:=vs.length) hpl ?_
   rw [←q1]
   intro j c0 hj
   simp only [World.cell?,hblk,Nat.zero_add]
   simpa using hj
  ·exact h.elim
 ·exact h.elim
theorem does_buildOwnV (hm:MRel P U I0 H w I ι) (hid:ι id=none) (T n:Nat) (ps:List (Nat×V)) (cvs:List Value) (arr:Array (Nat×Value)) (hl:ps.length=cvs.length) (ha:arr.toList=(ps.map (·.1)).zip cvs)
  (hv:∀(j:Nat) (k:Nat) (x:V) (cv:Value),ps[j]? =some (k,x)→cvs[j]? =some cv→Slot w I ι H x cv) (h:(buildOwnV P H id T n ps).ok):
  Does P U I0 H w I ι id (buildOwnV P H id T n ps) (do pure (.value (←Instr.buildSlice T n arr))):=by
 unfold buildOwnV at h ⊢
 split at h
 ·rename_i E hT
  split at h
  ·rename_i z hE
   obtain ⟨⟨k1,k2,k3,k4,k5,k6⟩,k7⟩:=h
   obtain ⟨I1,a0,a1,a2,a3⟩:=freeze_all hm (pureVs H (ps.map (·.2))).2.2
   obtain ⟨c,i,h1,h2,h3,h4,h5⟩:=zeroOk_spec (w:=w) (I:=I1) k4
   have hzs:z=(zeroT P E).sz:=by rw [hE] at h4;simpa using h4
   have hcs:c.cells.size=z:=by rw [hzs,←h3.size];simp
   obtain ⟨hnp,hps1⟩:((ps.map (·.1)).zip (pureVs H (ps.map (·.2))).2.1).length=cvs.length∧((ps.map (·.1)).zip (pureVs H (ps.map (·.2))).2.1).map (·.1)=ps.map (·.1):=by
    have:=pureVs_length (P:=P) (U:=U) (I0:=I0) (H:=H) (w:=w) (I:=I) (ι:=ι) (ps.map (·.2))
    refine ⟨by simp [this,hl], ?_⟩
    rw [List.map_fst_zip]
    simp [this]
   have hpart:∀(j:Nat) (k:Nat) (x:V) (cv:Value),((ps.map (·.1)).zip (pureVs H (ps.map (·.2))).2.1)[j]? =some (k,x)→cvs[j]? =some cv→x.boxy=true→Imm w I1 x cv.cells.toList:=by
    intro j k x cv hj hcv _
    rw [List.getElem?_zip_eq_some] at hj
    obtain ⟨hj1,hj2⟩:=hj
    have hcell:∀(i:Nat) (v:V),(ps.map (·.2))[i]? =some v→Rep w I ι H v ((cvs[i]?.getD undef).cells.toList):=by
     intro i v hi
     rw [List.getElem?_map] at hi
     obtain ⟨p,hp,rfl⟩:=Option.map_eq_some_iff.1 hi
     have hlt:i<cvs.length:=by rw [←hl];exact (List.getElem?_eq_some_iff.1 hp).1
     have hci:cvs[i]? =some cvs[i]:=List.getElem?_eq_getElem hlt
     rw [hci]
     have hs:=hv i p.1 p.2 cvs[i] (by simpa using hp) hci
     refine (slot_cells hs ?_).1
     have hok:(pureV H p.2).ok:=by
      have key:∀(l:List V),(pureVs H l).1→∀v∈l,(pureV H v).ok:=by
       intro l
       induction l with
       |nil=>intro _ v hv;cases hv
       |cons a r ih=>
        intro h v hv
        simp only [pureVs] at h
        rcases List.mem_cons.1 hv with rfl|hv
        ·exact h.1
        ·exact ih h.2 v hv
      exact key _ k5 _ (List.mem_map.2 ⟨p,List.mem_of_getElem? hp,rfl⟩)
     cases hpp:p.2<;>rw [hpp] at hok<;>first|rfl|(simp [pureV] at hok)
    have:=pures_rep hm a3.sub a1 (ps.map (·.2)) (fun i=>(cvs[i]?.getD undef).cells.toList) (fun i hi=>hi) hcell k5 j x hj2
    simpa [hcv] using this
   have hmade:(madeCells c.cells (n*z)).toList=(List.range n).flatMap fun _=>c.cells.toList:=by rw [←hcs];exact made_split _ _
   obtain ⟨cs',f1,f2,f3⟩:=fill_putParts (P:=P) (R:=Imm w I1) treeR_imm (off:=fun k=>some (k*z)) (szp:=fun _=>some z) (place:=fun i=>some (i*z,z))
    (fun k o s a b=>by cases a;cases b;rfl) _ cvs (List.replicate n (zeroT P E)) (madeCells c.cells (n*z)) hnp hpart k6 (by rw [hmade];exact imm_replicate h3 n)
   rw [hps1] at f1
   have hrun:(Instr.buildSlice T n arr).run P w=.ok (.slice (some ⟨w.heap.size,0,none⟩) n n) (w.alloc (.cells cs' E)):=by
    have hnb:¬(16777216<n*z):=by omega
    rw [←ha] at f1
    unfold madeCells at f1
    by_cases hn0:n*z=0
    ·rw [hn0,Array.range_zero'] at f1
     have f1':Instr.fill (fun i=>some (i*z,z)) #[] arr.toList=some cs':=by simpa using f1
     simp [Instr.buildSlice,run_underlying (elemT_und hT),run_sz hE,hnb,hn0,f1',newRow,Array.range_zero']
    ·simp [Instr.buildSlice,run_underlying (elemT_und hT),run_sz hE,hnb,hn0,run_zero h1 h2,f1,newRow]
   have hp:(w.alloc (.cells cs' E)).heap=w.heap.push (.cells cs' E):=rfl
   rw [k7] at a2 a3
   have hov:over H (frz H [])=H:=rfl
   rw [hov] at a2 a3
   have himm:Imm w I1 (.agg (putParts P (fun k=>some (k*z)) (fun _=>some z) ((ps.map (·.1)).zip (pureVs H (ps.map (·.2))).2.1) (List.replicate n (zeroT P E))).2) cs'.toList:=f2
   have hrl:(putParts P (fun k=>some (k*z)) (fun _=>some z) ((ps.map (·.1)).zip (pureVs H (ps.map (·.2))).2.1) (List.replicate n (zeroT P E))).2.length=n:=by rw [f3];simp
   have hrz:∀v∈(putParts P (fun k=>some (k*z)) (fun _=>some z) ((ps.map (·.1)).zip (pureVs H (ps.map (·.2))).2.1) (List.replicate n (zeroT P E))).2,v.sz=z:=by
    have key:∀(l:List (Nat×V)) (vs:List V),(putParts P (fun k=>some (k*z)) (fun _=>some z) l vs).1→(∀v∈vs,v.sz=z)→∀v∈(putParts P (fun k=>some (k*z)) (fun _=>some z) l vs).2,v.sz=z:=by
     intro l
     induction l with
     |nil=>intro vs _ hvs;exact hvs
     |cons p r ih=>
      obtain ⟨k,x⟩:=p
      intro vs h hvs
      simp only [putParts] at h ⊢
      cases hk:vs[k]? with
      |none=>simp [hk] at h
      |some u=>
       simp only [hk] at h ⊢
       refine ih _ h.2 fun v hv=>?_
       rcases List.mem_or_eq_of_mem_set hv with hv|rfl
       ·exact hvs v hv
       ·exact h.1.2.1.symm
    exact key _ _ k6 (fun v hv=>by rw [List.eq_of_mem_replicate hv];exact hzs.symm)
   generalize (putParts P (fun k=>some (k*z)) (fun _=>some z) ((ps.map (·.1)).zip (pureVs H (ps.map (·.2))).2.1) (List.replicate n (zeroT P E))).2=vs at himm hrl hrz ⊢
   have hl2:cs'.toList.length=n*z:=by rw [himm.size,V.sz,szs_const hrz,hrl]
   obtain ⟨g1,g2,g3⟩:=new_block (P:=P) (U:=U) (I0:=I0) a2 hid hp ⟨rfl,rfl,rfl⟩ (blk:=⟨some E,false,.agg vs⟩) (cap:=n) (a:=true) rfl (fun hk hg=>by
    refine ⟨_,setO_same _ _ _,rfl,.inl ⟨vs,rfl,by simpa using Nat.le_of_eq hrl,k2,cs'.toList,[],⟨E,(0,0), ?_, ?_, ?_⟩,himm.mono hk (fun _ h=>h), ?_, ?_⟩⟩
    ·rw [List.append_nil,Array.toArray_toList];exact heap_push_new hp
    ·exact ⟨Nat.le_refl _,fun o _ h=>by simp at h⟩
    ·intro c hc
     rw [List.append_nil] at hc
     exact himm.cells c hc
    ·rw [List.append_nil,hl2,cellsOf_sz hE]
    ·intro r hr
     rw [cellsOf_sz hE];exact hrz r hr)
   refine ⟨.value (.slice (some ⟨w.heap.size,0,none⟩) n n),_,w.alloc (.cells cs' E),I1,_,by simp [hrun],.inl rfl,trivial, ?_, ?_, ?_,g3⟩
   ·refine Rep.sl rfl (setO_same _ _ _) fun E' fz rws hr=>?_
    simp only [zG,over_nil,setO_same] at hr
    cases hr
    exact ⟨Nat.le_of_eq hrl.symm,fun _=>rfl⟩
   ·show MRel P U I0 (over H [(id,_)]) _ _ _
    rw [zG,over_nil];exact g1
   ·show MGo U I I1 ι _ H (over H [(id,_)]) _ _
    rw [zG,over_nil];exact a3.trans g2
  ·exact h.elim
 ·exact h.elim
end
open Go
section
variable {P:Program} {U I0:Nat→Prop} {H:Nat→Option Blk} {w:World} {I:Nat→Prop} {ι:Nat→Option Img} {id:Nat}
theorem made_cells (z:Array Value) {n c:Nat} (hnc:n≤c):
  (madeCells z (c*z.size)).toList=((List.range n).flatMap fun _=>z.toList)++((List.range (c-n)).flatMap fun _=>z.toList):=by
 rw [made_split]
 obtain ⟨k,rfl⟩:=Nat.exists_eq_add_of_le hnc
 rw [List.range_add,List.flatMap_append,List.flatMap_map,Nat.add_sub_cancel_left]
theorem isCell_flat {l:List Value} (h:∀c∈l,isCell c=true) (n:Nat):∀c∈(List.range n).flatMap (fun _=>l),isCell c=true:=by
 intro c hc
 simp only [List.mem_flatMap] at hc
 obtain ⟨_,_,hc⟩:=hc
 exact h c hc
theorem list_of_block {b z cap:Nat} {vs:List V} {front:List Value} {c:Bool} (hI:I b) (hb:cellsAt w b 0 front) (hi:Imm w I (.agg vs) front) (hz:∀v∈vs,v.sz=z)
  (h1:vs.length≤cap) (h2:cap≤lenMax) (hc:c=true→cap=vs.length):Imm w I (.list c vs) [.slice (some ⟨b,0,none⟩) vs.length cap]:=by
 obtain ⟨part,q1,q2⟩:=hi.agg_inv
 have hpl:∀i,i<vs.length→(part i).length=z:=fun i hi=>by
  rw [(q2 i vs[i] (by simp [hi])).size];exact hz _ (by simp)
 exact .list (sz:=z) (part:=part) h1 h2 hc (fun _=>⟨_,rfl,rfl,hI,cellsAt_part (n:=vs.length) hpl (q1▸hb)⟩) hpl q2
theorem cells_new {w':World} {b ty:Nat} {fr:Nat×Nat} {front spare:List Value} {cs:Array Value} (h:w'.heap[b]? =some (.cells cs ty fr)) (hc:cs.toList=front++spare):cellsAt w' b 0 front:=by
 intro j c hj
 have:cs=(front++spare).toArray:=by rw [←hc]
 subst this
 simp only [World.cell?,h,Nat.zero_add]
 have hl:=(List.getElem?_eq_some_iff.1 hj).1
 simpa [List.getElem?_append_left hl] using hj
theorem does_makeSliceV (hm:MRel P U I0 H w I ι) (g:Bool) (hid:g=false→ι id=none) (T:Nat) {x y:V} {cx cy:Value} (hx:Slot w I ι H x cx) (hy:Slot w I ι H y cy) (h:(makeSliceV P g id T x y).ok):
  Does P U I0 H w I ι id (makeSliceV P g id T x y) (do pure (.value (←Instr.makeSlice T cx cy))):=by
 unfold makeSliceV at h ⊢
 split at h
 ·rename_i k1 n k2 c
  have:=Slot.int_inv hx;subst this
  have:=Slot.int_inv hy;subst this
  split at h
  ·rename_i E hT
   split at h
   ·rename_i by_ hby
    have h':0≤n∧n≤c∧c≤lenMax∧(by_:Int)*c≤281474976710656∧zeroOk P E (zeroT P E)=true:=by
     cases g
     ·exact h
     ·exact h
    obtain ⟨q1,q2,q3,q4,q5⟩:=h'
    obtain ⟨z,i,h1,h2,h3,h4,h5⟩:=zeroOk_spec (w:=w) (I:=I) q5
    have hbi:i.bytes=by_:=by simp [byO,h1] at hby;exact hby
    have hsz:i.size=z.cells.size:=by
     simp [szO,h1] at h4
     rw [h4,←h3.size];simp
    have hrun:=run_make (P:=P) w T E i z (elemT_und hT) h1 h2 k1 k2 n c q1 q2 (by rw [hbi];exact q4) (by simpa [lenMax] using q3)
    have hzz:(zeroT P E).sz=P.cellsOf E:=(cellsOf_sz h4).symm
    have hsplit:=made_cells z.cells (n:=n.toNat) (c:=c.toNat) (by omega)
    have hc63:c.toNat≤lenMax:=by omega
    have himm:=imm_replicate h3 n.toNat
    rw [hsz] at hrun
    have hp:(w.alloc (.cells (madeCells z.cells (c.toNat*z.cells.size)) E)).heap=w.heap.push (.cells (madeCells z.cells (c.toNat*z.cells.size)) E):=rfl
    have hblk:(w.alloc (.cells (madeCells z.cells (c.toNat*z.cells.size)) E)).heap[w.heap.size]? =_:=heap_push_new hp
    have hcs:∀v∈(List.replicate n.toNat (zeroT P E)),v.sz=P.cellsOf E:=fun v hv=>by rw [List.eq_of_mem_replicate hv];exact hzz
    cases g
    ·obtain ⟨k1,k2,k3⟩:=new_block (P:=P) (U:=U) (I0:=I0) hm (hid rfl) hp ⟨rfl,rfl,rfl⟩ (blk:=⟨some E,false,.agg (List.replicate n.toNat (zeroT P E))⟩) (cap:=c.toNat) (a:=true) rfl (fun hk hg=>by
      refine ⟨_,setO_same _ _ _,rfl,.inl ⟨_,rfl,by simp;omega,hc63,_,(List.range (c.toNat-n.toNat)).flatMap (fun _=>z.cells.toList),⟨E,(0,0), ?_,⟨Nat.le_refl _,fun o _ h=>by simp at h⟩, ?_⟩,himm.mono hk (fun _ h=>h), ?_,hcs⟩⟩
      ·rw [hblk,←hsplit]
      ·intro u hu
       rcases List.mem_append.1 hu with hu|hu
       ·exact isCell_flat h3.cells _ u hu
       ·exact isCell_flat h3.cells _ u hu
      ·rw [←hsplit];simp [size_madeCells,←hsz]
       rw [hsz,←hzz,←h3.size];simp)
     refine ⟨_,_,_,I,_,by simp only [Sem.run_bind,hrun,Result.andThen_ok,Sem.run_pure];rfl,.inl rfl,trivial, ?_, ?_, ?_,k3⟩
     ·refine Rep.sl rfl (setO_same _ _ _) fun E' fz rows hr=>?_
      simp only [Bool.false_eq_true,if_false,zG,over_nil,setO_same] at hr
      cases hr
      simp
     ·show MRel P U I0 (over H [(id,_)]) _ _ _
      rw [zG,over_nil];exact k1
     ·show MGo U I I ι _ H (over H [(id,_)]) _ _
      rw [zG,over_nil];exact k2
    ·obtain ⟨b1,b2⟩:=new_imm (P:=P) (U:=U) (I0:=I0) hm hp ⟨rfl,rfl,rfl⟩
     refine ⟨_,_,_,_,ι,by simp only [Sem.run_bind,hrun,Result.andThen_ok,Sem.run_pure];rfl,.inl rfl,trivial, ?_,b1,b2,fun _ _ h=>h⟩
     have:=list_of_block (c:=false) (cap:=c.toNat) (.inr rfl) (cells_new hblk hsplit) (himm.mono b2.kI b2.sub) hcs (by simp;omega) hc63 (fun h=>by cases h)
     simp only [List.length_replicate] at this
     exact Rep.imm this
   ·cases g<;>exact h.elim
  ·cases g<;>exact h.elim
 ·cases g<;>exact h.elim
def OptS (w:World) (I:Nat→Prop) (ι:Nat→Option Img) (H:Nat→Option Blk):Option V→Option Value→Prop
 |none,none=>True
 |some v,some c=>Slot w I ι H v c
 |_,_=>False
theorem run_bounds (b:Bool) {len cap:Nat} {lo hi mx:Option V} {clo chi cmx:Option Value} (h1:OptS w I ι H lo clo) (h2:OptS w I ι H hi chi) (h3:OptS w I ι H mx cmx)
  (i1:isIntO lo) (i2:isIntO hi) (i3:isIntO mx) (hmx:mx≠none→hi≠none∧hiV 0 mx=hiV 0 hi) (q0:0≤loV lo) (q1:loV lo≤hiV len hi) (q2:hiV len hi≤len) (hlc:len≤cap):
  (Instr.sliceBounds b len cap clo chi cmx).run P w=.ok ((loV lo).toNat,(hiV len hi).toNat,if mx.isSome then (hiV len hi).toNat else cap) w:=by
 cases lo with
 |none=>
  cases clo with
  |some _=>exact h1.elim
  |none=>
   cases hi with
   |none=>
    cases chi with
    |some _=>exact h2.elim
    |none=>
     cases mx with
     |some m=>exact absurd rfl (hmx (by simp)).1
     |none=>
      cases cmx with
      |some _=>exact h3.elim
      |none=>simp [Instr.sliceBounds,loV,hiV]
   |some h=>
    cases h<;>simp only [isIntO] at i2
    rename_i kh h
    cases chi with
    |none=>exact h2.elim
    |some c=>
     have:=Slot.int_inv h2;subst this
     simp only [loV,hiV] at*
     cases mx with
     |some m=>
      cases m<;>simp only [isIntO] at i3
      rename_i km m
      cases cmx with
      |none=>exact h3.elim
      |some c=>
       have:=Slot.int_inv h3;subst this
       have hmm:=(hmx (by simp)).2
       simp only at hmm
       subst hmm
       have e0:(m.toNat:Int)=m:=Int.toNat_of_nonneg (by omega)
       have e1:m≤(cap:Int):=by omega
       simp [Instr.sliceBounds,run_sliceBound,e0,q1,e1]
     |none=>
      cases cmx with
      |some _=>exact h3.elim
      |none=>
       have e1:h≤(cap:Int):=by omega
       simp [Instr.sliceBounds,run_sliceBound,q1,e1]
 |some l=>
  cases l<;>simp only [isIntO] at i1
  rename_i kl l
  cases clo with
  |none=>exact h1.elim
  |some c=>
   have:=Slot.int_inv h1;subst this
   cases hi with
   |none=>
    cases chi with
    |some _=>exact h2.elim
    |none=>
     cases mx with
     |some m=>exact absurd rfl (hmx (by simp)).1
     |none=>
      cases cmx with
      |some _=>exact h3.elim
      |none=>
       simp only [loV,hiV] at*
       simp [Instr.sliceBounds,run_sliceBound,q0,q1]
   |some h=>
    cases h<;>simp only [isIntO] at i2
    rename_i kh h
    cases chi with
    |none=>exact h2.elim
    |some c=>
     have:=Slot.int_inv h2;subst this
     simp only [loV,hiV] at*
     have eh:(h.toNat:Int)=h:=Int.toNat_of_nonneg (by omega)
     have h0:0≤h:=by omega
     cases mx with
     |some m=>
      cases m<;>simp only [isIntO] at i3
      rename_i km m
      cases cmx with
      |none=>exact h3.elim
      |some c=>
       have:=Slot.int_inv h3;subst this
       have hmm:=(hmx (by simp)).2
       simp only at hmm
       subst hmm
       have e1:m≤(cap:Int):=by omega
       simp [Instr.sliceBounds,run_sliceBound,eh,q0,q1,e1,h0]
     |none=>
      cases cmx with
      |some _=>exact h3.elim
      |none=>
       have e1:h≤(cap:Int):=by omega
       simp [Instr.sliceBounds,run_sliceBound,eh,q0,q1,e1,h0]
theorem extract_mk (s:List UInt8) (a b:Nat):(⟨s.toArray⟩:ByteArray).extract a b=⟨((s.drop a).take (b-a)).toArray⟩:=by
 apply ByteArray.ext
 simp
theorem rep_ints {v:V} {cs:List Value} (h:Rep w I ι H v cs):v.ints=true→Imm w I v cs:=by
 induction h with
 |imm h=>exact fun _=>h
 |agg hp ih=>exact fun hv=>.agg fun i v hi=>ih i v hi (intss_get hv hi)
 |ptr _=>intro hv;cases hv
 |own _=>intro hv;cases hv
 |mp _=>intro hv;cases hv
 |sl _ _ _=>intro hv;cases hv
 |eptr _ _ _=>intro hv;cases hv
 |view _ _ _=>intro hv;cases hv
 |fn _ _=>intro hv;cases hv
 |junk _=>intro hv;cases hv
theorem does_sliceArr (hm:MRel P U I0 H w I ι) (T:Nat) {lo hi mx:Option V} {clo chi cmx:Option Value} (h1:OptS w I ι H lo clo) (h2:OptS w I ι H hi chi) (h3:OptS w I ι H mx cmx)
  {i off:Nat} {p:List Nat} {cx:Value} (hx:Slot w I ι H (.ptr i off p) cx) (h:(sliceArr P H T lo hi mx i off p).ok):
  Does P U I0 H w I ι id (sliceArr P H T lo hi mx i off p) (do pure (.value (←Instr.sliceAt T cx clo chi cmx))):=by
 unfold sliceArr at h ⊢
 split at h
 ·rename_i n E hT
  split at h
  ·rename_i fz t hH
   split at h
   ·rename_i xs hu
    obtain ⟨k1,k2,i2,q0,q1,q2,q3,q4,q5,q6,q7⟩:=h
    subst k1
    subst k2
    obtain ⟨b,cap,hi',hc⟩:=Rep.ptr_inv hx
    have hc:cx=.pointer (some ⟨b,off,none⟩):=by simpa using hc
    subst hc
    obtain ⟨cs,e2,e3⟩:=box_of hm hi' hH
    obtain ⟨pre,mid,post,g1,g2,g3,g4⟩:=e3.sub hu
    rw [g1] at e2
    have hmid:=cellsAt_mid e2
    rw [g2,q4] at hmid
    have himm0:Imm w I (.agg xs) mid:=rep_ints g3 q5
    obtain ⟨I1,a0,a1,a2,a3⟩:=freeze_all hm [i]
    have hI:I1 b:=a1 i _ _ b (by simp) hH hi' rfl
    have himm:=himm0.mono (keep.refl w) a3.sub
    obtain ⟨part,r1,r2⟩:=himm.agg_inv
    have hpl:∀i,i<xs.length→(part i).length=P.cellsOf E:=fun i hi=>by
     rw [(r2 i xs[i] (by simp [hi])).size];exact q7 _ (by simp)
    have hcp:=cellsAt_part (n:=xs.length) hpl (r1▸hmid)
    cases clo with
    |some _=>exact h1.elim
    |none=>
     cases cmx with
     |some _=>exact h3.elim
     |none=>
      have hb:=run_bounds (P:=P) (w:=w) (I:=I) (ι:=ι) (H:=H) false (len:=n) (cap:=n) (lo:=none) (clo:=none) trivial h2 (mx:=none) (cmx:=none) trivial trivial i2 trivial (by simp) (by simp [loV]) (by simpa [loV] using q0) q1 (Nat.le_refl n)
      have hu:=arrT_und hT
      have hrun:(Instr.sliceAt T (.pointer (some ⟨b,off,none⟩)) none chi none).run P w=.ok (.slice (some ⟨b,off,none⟩) (hiV n hi).toNat n) w:=by
       simp only [Instr.sliceAt,Sem.run_bind,run_underlying hu,Result.andThen_ok,Instr.sureAddr,Sem.run_pure,hb,run_sz q6]
       simp [loV,addr_add]
      refine ⟨_,_,w,I1,ι,by simp only [Sem.run_bind,hrun,Result.andThen_ok,Sem.run_pure];rfl,.inl rfl,trivial, ?_,a2,a3,fun _ _ h=>h⟩
      have hl:(xs.take (hiV n hi).toNat).length=(hiV n hi).toNat:=by simp;omega
      suffices hs:Imm w I1 (.list false (xs.take (hiV n hi).toNat)) [.slice (some ⟨b,off,none⟩) (xs.take (hiV n hi).toNat).length n] by
       rw [hl] at hs;exact Rep.imm hs
      refine .list (sz:=P.cellsOf E) (part:=part) ?_ ?_ ?_ ?_ ?_ ?_
      ·rw [hl];omega
      ·exact q3
      ·intro hms;cases hms
      ·intro hne
       refine ⟨_,rfl,rfl,hI,fun i hi=>?_⟩
       rw [hl] at hi
       exact hcp i (by omega)
      ·intro i hi
       rw [hl] at hi
       exact hpl _ (by omega)
      ·intro i v hv
       refine r2 _ v ?_
       rw [List.getElem?_take] at hv
       split at hv
       ·exact hv
       ·cases hv
   ·exact h.elim
  ·exact h.elim
 ·exact h.elim
theorem does_sliceView (hm:MRel P U I0 H w I ι) (T:Nat) {lo hi mx:Option V} {clo chi cmx:Option Value} (h1:OptS w I ι H lo clo) (h2:OptS w I ι H hi chi) (h3:OptS w I ι H mx cmx)
  {i off:Nat} {p:List Nat} {cx:Value} (hx:Slot w I ι H (.ptr i off p) cx) (h:(sliceView P T lo hi mx i off p).ok):
  Does P U I0 H w I ι id (sliceView P T lo hi mx i off p) (do pure (.value (←Instr.sliceAt T cx clo chi cmx))):=by
 unfold sliceView at h ⊢
 split at h
 ·rename_i n E hT
  obtain ⟨k1,k2,i2,q0,q1,q3,q6⟩:=h
  subst k1
  subst k2
  obtain ⟨b,cap,hi',hc⟩:=Rep.ptr_inv hx
  have hc:cx=.pointer (some ⟨b,off,none⟩):=by simpa using hc
  subst hc
  cases clo with
  |some _=>exact h1.elim
  |none=>
   cases cmx with
   |some _=>exact h3.elim
   |none=>
    have hb:=run_bounds (P:=P) (w:=w) (I:=I) (ι:=ι) (H:=H) false (len:=n) (cap:=n) (lo:=none) (clo:=none) trivial h2 (mx:=none) (cmx:=none) trivial trivial i2 trivial (by simp) (by simp [loV]) (by simpa [loV] using q0) q1 (Nat.le_refl _)
    have hu:=arrT_und hT
    have hrun:(Instr.sliceAt T (.pointer (some ⟨b,off,none⟩)) none chi none).run P w=.ok (.slice (some ⟨b,off,none⟩) (hiV n hi).toNat n) w:=by
     simp only [Instr.sliceAt,Sem.run_bind,run_underlying hu,Result.andThen_ok,Instr.sureAddr,Sem.run_pure,hb,run_sz q6]
     simp [loV,addr_add]
    exact does_pure hm hrun trivial (Rep.own hi')
 ·exact h.elim
theorem does_sliceSl (hm:MRel P U I0 H w I ι) (T:Nat) {lo hi mx:Option V} {clo chi cmx:Option Value} (h1:OptS w I ι H lo clo) (h2:OptS w I ι H hi chi) (h3:OptS w I ι H mx cmx)
  {i len:Nat} {cx:Value} (hx:Slot w I ι H (.sl i len) cx) (h:(sliceSl P H T lo hi mx i len).ok):
  Does P U I0 H w I ι id (sliceSl P H T lo hi mx i len) (do pure (.value (←Instr.sliceAt T cx clo chi cmx))):=by
 unfold sliceSl at h ⊢
 split at h
 ·rename_i E hT
  split at h
  ·rename_i E' fz rows hH
   obtain ⟨k0,rfl,rfl,i1,i2,q0,q1,q2,q3,k3⟩:=h
   obtain ⟨c,img,hc,hi',hr⟩:=Rep.sl_inv hx
   have hcx:cx=c:=by simpa using hc
   subst hcx
   have hcx:=(hr E fz rows hH).2 k0
   subst hcx
   obtain ⟨g1,g2,g3⟩:=arr_of hm hi' hH
   cases hb:img.b with
   |none=>
    rw [hb] at g3
    have g3:img.cap=0:=g3
    omega
   |some b=>
    cases cmx with
    |some _=>exact h3.elim
    |none=>
     have hbd:=run_bounds (P:=P) (w:=w) (I:=I) (ι:=ι) (H:=H) true (len:=len) (cap:=img.cap) h1 h2 (mx:=none) (cmx:=none) trivial i1 i2 trivial (by simp) q0 q2 q3 (by omega)
     have hu:=elemT_und hT
     have hrun:(Instr.sliceAt T (.slice (some ⟨b,0,none⟩) len img.cap) clo chi none).run P w=
       .ok (.slice (if img.cap=(loV lo).toNat then some ⟨b,0,none⟩ else (some (⟨b,0,none⟩:Addr)).map (·.add ((loV lo).toNat*P.cellsOf E))) ((hiV len hi).toNat-(loV lo).toNat) (img.cap-(loV lo).toNat)) w:=by
      simp only [Instr.sliceAt,Sem.run_bind,run_underlying hu,Result.andThen_ok,Instr.slice,hbd,run_sz k3,Sem.run_pure]
      rfl
     rw [if_neg (by omega)] at hrun
     refine does_pure hm hrun trivial ?_
     refine Rep.view rfl hi' fun E2 fz2 rows2 hH2=>?_
     rw [hH] at hH2;cases hH2
     refine ⟨by omega,fun _=>⟨b,img.cap-(loV lo).toNat,hb, ?_⟩⟩
     simp [addr_add]
  ·exact h.elim
 ·exact h.elim
theorem does_sliceV (hm:MRel P U I0 H w I ι) (T:Nat) {lo hi mx:Option V} {clo chi cmx:Option Value} (h1:OptS w I ι H lo clo) (h2:OptS w I ι H hi chi) (h3:OptS w I ι H mx cmx)
  {x:V} {cx:Value} (hx:Slot w I ι H x cx) (h:(sliceV P H T lo hi mx x).ok):
  Does P U I0 H w I ι id (sliceV P H T lo hi mx x) (do pure (.value (←Instr.sliceAt T cx clo chi cmx))):=by
 unfold sliceV at h ⊢
 split at h
 ·rename_i i off p
  split at h
  ·exact does_sliceArr hm T h1 h2 h3 hx h
  ·exact does_sliceView hm T h1 h2 h3 hx h
 ·exact does_sliceSl hm T h1 h2 h3 hx h
 ·rename_i s
  obtain ⟨k1,k2,i1,i2,q0,q1,q2⟩:=h
  subst k2
  obtain ⟨e,hs⟩:=Slot.str_inv hx
  subst e
  cases cmx with
  |some _=>exact h3.elim
  |none=>
   have hb:=run_bounds (P:=P) (w:=w) (I:=I) (ι:=ι) (H:=H) false h1 h2 (mx:=none) (cmx:=none) trivial i1 i2 trivial (by simp) q0 q1 q2 (Nat.le_refl _)
   have hu:=strT_und k1
   refine does_pure (cv:=.string ⟨((s.drop (loV lo).toNat).take (hiV s.length hi-loV lo).toNat).toArray⟩) hm ?_ trivial (slot_str ?_)
   ·simp only [Instr.sliceAt,Sem.run_bind,run_underlying hu,Result.andThen_ok,Instr.slice,Option.isSome_none,Bool.false_eq_true,if_false,size_mk,hb,Sem.run_pure,extract_mk]
    congr 6
    omega
   ·simp;omega
 ·rename_i hnp hnsl hns
  split at h
  ·rename_i E hT
   obtain ⟨k1,k2,i1,i2,i3,hmx,q0,q1,q2,k3,k4⟩:=h
   have hns':∀s,x≠.str s:=fun s e=>hns s e
   have hpv:(pureV H x).ok∧(pureV H x).v=.list false (seqOf H x).vs:=by
    cases x
    case str s=>exact absurd rfl (hns' s)
    case list=>exact ⟨trivial,rfl⟩
    case nils=>exact ⟨trivial,rfl⟩
    case sl i len=>
     simp only [seqOf] at k1 ⊢
     simp only [pureV]
     cases hH:H i with
     |none=>simp [hH] at k1
     |some blk=>
      obtain ⟨arr,fz,t⟩:=blk
      cases arr with
      |none=>simp [hH] at k1
      |some E'=>
       cases t<;>simp [hH] at k1 ⊢
       exact k1
    all_goals exact k1.elim
   have hbx:x.boxy=true:=by
    cases x<;>first|rfl|(simp [seqOf] at k1)
   have hcx:cx.cells.toList=[cx]:=by
    obtain ⟨a,cap,e,_⟩:=seq_rep hm hx k1 hns'
    rw [e];rfl
   obtain ⟨I1,a0,a1,a2,a3⟩:=freeze_all hm (pureV H x).fz
   have himm:Imm w I1 (pureV H x).v [cx]:=pure_rep hm a3.sub a1 x (fun j hj=>hj) (by have:=(slot_cells hx hbx).1;rwa [hcx] at this) hpv.1
   rw [hpv.2] at himm
   have hx1:(if x.isAgg=true then True else True):=by split<;>trivial
   generalize (seqOf H x).vs=vs at*
   cases himm with
   |list hlen hcap hc hmm hsz hr=>
    rename_i a cap sz part
    have hb:=run_bounds (P:=P) (w:=w) (I:=I) (ι:=ι) (H:=H) true h1 h2 h3 i1 i2 i3 hmx q0 q1 q2 hlen
    have hu:=elemT_und hT
    have hrun:(Instr.sliceAt T (.slice a vs.length cap) clo chi cmx).run P w=
      .ok (.slice (if (if mx.isSome then (hiV vs.length hi).toNat else cap)=(loV lo).toNat then a else a.map (·.add ((loV lo).toNat*P.cellsOf E))) ((hiV vs.length hi).toNat-(loV lo).toNat) ((if mx.isSome then (hiV vs.length hi).toNat else cap)-(loV lo).toNat)) w:=by
     simp only [Instr.sliceAt,Sem.run_bind,run_underlying hu,Result.andThen_ok,Instr.slice,hb,run_sz k3,Sem.run_pure]
    refine ⟨_,_,w,I1,ι,by simp only [Sem.run_bind,hrun,Result.andThen_ok,Sem.run_pure];rfl,.inl rfl,trivial, ?_,a2,a3,fun _ _ h=>h⟩
    have hl:((vs.drop (loV lo).toNat).take (hiV vs.length hi-loV lo).toNat).length=(hiV vs.length hi).toNat-(loV lo).toNat:=by simp;omega
    rw [←hl]
    refine Rep.imm (.list (sz:=sz) (part:=fun i=>part ((loV lo).toNat+i)) ?_ ?_ ?_ ?_ ?_ ?_)
    ·rw [hl];split<;>omega
    ·split<;>omega
    ·intro hms
     rw [if_pos hms,hl]
    ·intro hne
     have hpos:0<(hiV vs.length hi).toNat-(loV lo).toNat:=by
      rw [←hl];exact List.length_pos_iff.2 hne
     have hvne:vs≠[]:=List.length_pos_iff.1 (by omega)
     obtain ⟨ad,rfl,hsp,hI,hcell⟩:=hmm hvne
     obtain ⟨b,off,sp⟩:=ad
     simp only at hsp;subst hsp
     have hsz0:sz=P.cellsOf E:=by
      have h0:0<vs.length:=List.length_pos_iff.2 hvne
      have:=hr 0 vs[0] (by simp)
      rw [←hsz 0 h0,this.size]
      exact k4 _ (by simp)
     rw [if_neg (by split<;>omega)]
     refine ⟨⟨b,off+(loV lo).toNat*P.cellsOf E,none⟩,by simp [addr_add],rfl,hI, ?_⟩
     intro i hi
     rw [hl] at hi
     have:=hcell ((loV lo).toNat+i) (by omega)
     simp only
     rw [←hsz0]
     rwa [Nat.add_mul,←Nat.add_assoc] at this
    ·intro i hi
     rw [hl] at hi
     exact hsz _ (by omega)
    ·intro i v hv
     refine hr _ v ?_
     rw [List.getElem?_take] at hv
     split at hv
     ·rwa [List.getElem?_drop] at hv
     ·cases hv
  ·exact h.elim
end
open Go
structure App (P:Program) (T T2 E:Nat) (i:TypeInfo) (z:Value) (cy:Value) (n:Nat) (news:List Value) (w:World):Prop where
 len:news.length=n*i.size
 one:∀u∈news,isCell u=true
 none:n=0→∀ty,(Builtin.append_ #[T,T2] ty #[.slice none 0 0,cy]).run P w=.ok (.slice none 0 0) w
 room:∀ty b off sLen sCap,sLen+n≤sCap→(∀j,j<news.length→(w.cell? ⟨b,off+sLen*i.size+j,.none⟩).isSome=true)→(∀j,j<news.length→w.frozen? ⟨b,off+sLen*i.size+j,.none⟩=false)→
  (Builtin.append_ #[T,T2] ty #[.slice (some ⟨b,off,.none⟩) sLen sCap,cy]).run P w=.ok (.slice (some ⟨b,off,.none⟩) (sLen+n) sCap) (w.setCells b (off+sLen*i.size) news)
 grow:∀ty base sLen sCap (olds:List Value),(Builtin.firstCells i.size sLen (.slice base sLen sCap)).run P w.drew=.ok olds.toArray w.drew→sCap<sLen+n→
  (sLen+n)≤lenMax→Builtin.nextslicecap (sLen+n) sCap*i.bytes≤281474976710656→
  (Builtin.append_ #[T,T2] ty #[.slice base sLen sCap,cy]).run P w=
   .ok (.slice (some ⟨w.heap.size,0,.none⟩) (sLen+n) (grownCap w (sLen+n) sCap E))
    (w.drew.alloc (.cells ((olds++news).toArray++Builtin.zeroCells z.cells (grownCap w (sLen+n) sCap E-(sLen+n))) E))
theorem App.ofSrc {P:Program} {T T2 E:Nat} {i:TypeInfo} {z cy:Value} {n:Nat} {news:List Value} {w:World} (ht:P.underlying T=some (.slice E)) (hi:P.info? E=some i) (hz:i.zero=some z)
  (hs:Src P i.size T2 cy n news w):App P T T2 E i z cy n news w:=by
 refine ⟨hs.newsLen,hs.one,fun h0 ty=>?_,fun ty b off sLen sCap hr hc hf=>run_append_room_src w T T2 ty E i ht hi b off sLen sCap cy n news hs hr hc hf,
  fun ty base sLen sCap olds ho hg h63 hfit=>run_append_grow_src w T T2 ty E i z ht hi hz base sLen sCap olds ho cy n news hs hg (by have:=h63;simp only [lenMax] at this;omega) hfit⟩
 subst h0
 have hc:=hs.cells
 rcases hs.kind with ⟨e',hk⟩|hk<;>simp [Builtin.append_,run_underlying ht,run_underlying hk,Go.sizeOf,typeInfo,hi,hs.len,hc]
theorem zeroCells_list (z:Array Value) (n:Nat):(Builtin.zeroCells z n).toList=(List.range n).flatMap (fun _=>z.toList):=made_split z n
theorem App.ofZeros {P:Program} {T T2 E:Nat} {i:TypeInfo} {z:Value} {k k2:IntKind} {n:Nat} {w:World} (ht:P.underlying T=some (.slice E)) (hi:P.info? E=some i) (hz:i.zero=some z)
  (hk:P.underlying T2=some (.int k)) (hsz:i.size=z.cells.size) (h1:∀u∈z.cells.toList,isCell u=true) (hn:n≤lenMax) (hb:n*i.bytes≤281474976710656):
  App P T T2 E i z (.int k2 n) n (Builtin.zeroCells z.cells n).toList w:=by
 have hw:IntKind.i64.wrap (n:Int)=n:=by rw [IntKind.wrap_i64];simp only [lenMax] at hn;omega
 have n1:¬((n:Int)<0):=by omega
 have n2:¬((281474976710656:Int)<(n:Int)*(i.bytes:Int)):=by
  have h3:((n*i.bytes:Nat):Int)≤281474976710656:=by omega
  rw [Int.natCast_mul] at h3;omega
 have hlen:(Builtin.zeroCells z.cells n).toList.length=n*i.size:=by rw [Array.length_toList,size_zeroCells,hsz]
 have hone:∀u∈(Builtin.zeroCells z.cells n).toList,isCell u=true:=by
  intro u hu
  rw [zeroCells_list] at hu
  exact isCell_flat h1 n u hu
 have hempty:n*i.size=0→Builtin.zeroCells z.cells n=#[]:=by
  intro h
  apply Array.ext'
  rw [←List.length_eq_zero_iff,hlen];exact h
 refine ⟨hlen,hone,fun h0 ty=>?_,fun ty b off sLen sCap hr hc hf=>?_,fun ty base sLen sCap olds ho hg h63 hfit=>?_⟩
 ·subst h0
  have hw0:IntKind.i64.wrap 0=0:=hw
  simp [Builtin.append_,run_underlying ht,run_underlying hk,Go.sizeOf,typeInfo,hi,asInt,asIntOf,hw0]
 ·have hst:=run_storeCells_cells (P:=P) b (off+sLen*i.size) (Builtin.zeroCells z.cells n).toList 0 w (by simpa using hc) (by simpa using hf) hone
  simp only [Nat.add_zero] at hst
  by_cases h0:n*i.size=0
  ·have he:=hempty h0
   rw [he] at hst ⊢
   simp [Builtin.append_,run_underlying ht,run_underlying hk,Go.sizeOf,typeInfo,hi,asInt,asIntOf,hw,n1,n2,hr,h0,Addr.add_lit,storeCells,World.setCells]
  ·simp [Builtin.append_,run_underlying ht,run_underlying hk,Go.sizeOf,typeInfo,hi,asInt,asIntOf,hw,n1,n2,hr,h0,zeroValue,hz,Addr.add_lit,hst]
 ·have hnn:¬(sLen+n≤sCap):=by omega
  have h63':¬((9223372036854775807:Int)<((sLen:Int)+(n:Int))):=by simp only [lenMax] at h63;omega
  have h48':¬(281474976710656<Builtin.nextslicecap (sLen+n) sCap*i.bytes):=by omega
  by_cases h0:n*i.size=0
  ·have he:=hempty h0
   rw [he]
   simp [Builtin.append_,run_underlying ht,run_underlying hk,Go.sizeOf,typeInfo,zeroValue,hi,hz,asInt,asIntOf,hw,n1,n2,hnn,h63',h48',Question.forced,ho,newRow,grownCap,h0]
  ·simp [Builtin.append_,run_underlying ht,run_underlying hk,Go.sizeOf,typeInfo,zeroValue,hi,hz,asInt,asIntOf,hw,n1,n2,hnn,h63',h48',Question.forced,ho,newRow,grownCap,h0]
   congr 2
   apply Array.ext'
   simp [List.append_assoc]
section
variable {P:Program} {U I0:Nat→Prop} {H:Nat→Option Blk} {w:World} {I:Nat→Prop} {ι:Nat→Option Img} {id:Nat}
theorem move_block (hm:MRel P U I0 H w I ι) {i:Nat} {w':World} {o:Obj} (hp:w'.heap=w.heap.push o) (he:w'.os=w.os∧w'.tape=w.tape∧w'.output=w.output)
  {blk:Blk} {cap:Nat} {a:Bool} (hf:blk.fz=false) (hg:HGo ι (setO ι i ⟨some w.heap.size,cap,a⟩) H (setO H i blk))
  (hr:∀(_:keep I w w'),BlkRep P w' I (setO ι i ⟨some w.heap.size,cap,a⟩) (setO H i blk) i blk):
  MRel P U I0 (setO H i blk) w' I (setO ι i ⟨some w.heap.size,cap,a⟩)∧MGo U I I ι (setO ι i ⟨some w.heap.size,cap,a⟩) H (setO H i blk) w w'∧
   (∀j,j≠i→ι j=none→setO ι i ⟨some w.heap.size,cap,a⟩ j=none):=by
 have hold:∀b,b<w.heap.size→w'.heap[b]? =w.heap[b]?:=fun b hb=>heap_push_old hp hb
 have hk:keep I w w':=fun b hb=>hold b (hm.bnd b hb)
 have hsz:w'.heap.size=w.heap.size+1:=by rw [hp];simp
 refine ⟨{ heap:=?_,inj:=?_,img:=?_,live:=?_,bnd:=?_,org:=hm.org,new:=?_ },⟨hk, ?_,fun _ h=>h,hg,by omega,he.1,he.2.1,he.2.2⟩,fun j hj h=>by rw [zV _ _ hj];exact h⟩
 ·intro j bj hj
  by_cases hji:j=i
  ·subst hji
   rw [setO_same] at hj;cases hj
   exact hr hk
  ·rw [zV _ _ hji] at hj
   exact (hm.heap _ _ hj).mono (zV _ _ hji) (fun m b h1 h2=>hold b (hm.img j m b h1 h2).2) hk (fun _ h=>h) hg rfl rfl
 ·intro x j m k b hi hj hb hb'
  by_cases h1:x=i<;>by_cases h2:j=i
  ·rw [h1,h2]
  ·subst h1
   rw [setO_same] at hi;cases hi
   simp only [Option.some.injEq] at hb;subst hb
   rw [zV _ _ h2] at hj
   have:=(hm.img j k _ hj hb').2
   omega
  ·subst h2
   rw [setO_same] at hj;cases hj
   simp only [Option.some.injEq] at hb';subst hb'
   rw [zV _ _ h1] at hi
   have:=(hm.img x m _ hi hb).2
   omega
  ·rw [zV _ _ h1] at hi
   rw [zV _ _ h2] at hj
   exact hm.inj x j m k b hi hj hb hb'
 ·intro x m b hi hb
  by_cases h1:x=i
  ·subst h1
   rw [setO_same] at hi;cases hi
   simp only [Option.some.injEq] at hb;subst hb
   exact ⟨hm.new _ (Nat.le_refl _),by omega⟩
  ·rw [zV _ _ h1] at hi
   have:=hm.img x m b hi hb
   exact ⟨this.1,by omega⟩
 ·intro x bi m b hi hm1 hb
  by_cases h1:x=i
  ·subst h1
   rw [setO_same] at hi hm1;cases hi;cases hm1
   simp only [Option.some.injEq] at hb;subst hb
   refine ⟨fun h=>(by rw [hf] at h;cases h),fun _ hI=>?_⟩
   have:=hm.bnd _ hI
   omega
  ·rw [zV _ _ h1] at hi hm1
   exact hm.live x bi m b hi hm1 hb
 ·intro b hb
  have:=hm.bnd b hb
  omega
 ·intro b hb
  exact hm.new b (by omega)
 ·intro b hb
  refine hold b ?_
  rcases Nat.lt_or_ge b w.heap.size with h|h
  ·exact h
  ·exact absurd (hm.new b h) hb
theorem new_empty (hm:MRel P U I0 H w I ι) (hid:ι id=none) (E:Nat):
  MRel P U I0 (setO H id ⟨some E,false,.agg []⟩) w I (setO ι id ⟨none,0,true⟩)∧MGo U I I ι (setO ι id ⟨none,0,true⟩) H (setO H id ⟨some E,false,.agg []⟩) w w∧
   (∀j,j≠id→ι j=none→setO ι id ⟨none,0,true⟩ j=none):=by
 have hg:HGo ι (setO ι id ⟨none,0,true⟩) H (setO H id ⟨some E,false,.agg []⟩):=hgo_new hid
 refine ⟨{ heap:=?_,inj:=?_,img:=?_,live:=?_,bnd:=hm.bnd,org:=hm.org,new:=hm.new },⟨keep.refl _,fun _ _=>rfl,fun _ h=>h,hg,Nat.le_refl _,rfl,rfl,rfl⟩,fun j hj h=>by rw [zV _ _ hj];exact h⟩
 ·intro j bj hj
  by_cases hji:j=id
  ·subst hji
   rw [setO_same] at hj;cases hj
   exact ⟨_,setO_same _ _ _,rfl,.inl ⟨[],rfl,Nat.zero_le _,Nat.zero_le _,rfl⟩⟩
  ·rw [zV _ _ hji] at hj
   exact (hm.heap _ _ hj).mono (zV _ _ hji) (fun m b h1 h2=>rfl) (keep.refl _) (fun _ h=>h) hg rfl rfl
 ·intro i j m k b hi hj hb hb'
  by_cases h1:i=id
  ·subst h1;rw [setO_same] at hi;cases hi;cases hb
  ·by_cases h2:j=id
   ·subst h2;rw [setO_same] at hj;cases hj;cases hb'
   ·rw [zV _ _ h1] at hi
    rw [zV _ _ h2] at hj
    exact hm.inj i j m k b hi hj hb hb'
 ·intro i m b hi hb
  by_cases h1:i=id
  ·subst h1;rw [setO_same] at hi;cases hi;cases hb
  ·rw [zV _ _ h1] at hi
   exact hm.img i m b hi hb
 ·intro i bi m b hi hm1 hb
  by_cases h1:i=id
  ·subst h1;rw [setO_same] at hm1;cases hm1;cases hb
  ·rw [zV _ _ h1] at hi hm1
   exact hm.live i bi m b hi hm1 hb
theorem seq_cells {vs:List V} {a:Option Addr} {cap z:Nat} (h:SeqRep w I vs a cap) (hz:∀v∈vs,v.sz=z):
  ∃cs:List Value,Imm w I (.agg vs) cs∧cs.length=vs.length*z∧(vs≠[]→∃b off,a=some ⟨b,off,none⟩∧cellsAt w b off cs):=by
 by_cases hne:vs=[]
 ·subst hne
  have:Imm w I (.agg []) ((List.range ([]:List V).length).flatMap fun _=>[]):=.agg (fun i v hv=>by simp at hv)
  exact ⟨[],by simpa using this,by simp,fun h=>absurd rfl h⟩
 ·obtain ⟨b,off,z',part,h1,h2,h3,h4⟩:=h.mem hne
  have hp:∀i,i<vs.length→(part i).length=z:=fun i hi=>by
   rw [(h4 i vs[i] (by simp [hi])).size];exact hz _ (by simp)
  have h0:0<vs.length:=List.length_pos_iff.2 hne
  have hzz:z'=z:=(h3 0 h0).symm.trans (hp 0 h0)
  subst hzz
  have hi:Imm w I (.agg vs) ((List.range vs.length).flatMap part):=.agg h4
  refine ⟨_,hi,by rw [hi.size,V.sz];exact szs_const hz,fun _=>⟨b,off,h1, ?_⟩⟩
  intro j c hj
  have hjl:=(List.getElem?_eq_some_iff.1 hj).1
  rw [hi.size,V.sz,szs_const hz] at hjl
  have hz0:0<z':=by
   rcases Nat.eq_zero_or_pos z' with h|h
   ·rw [h] at hjl;omega
   ·exact h
  have hd:j / z'<vs.length:=(Nat.div_lt_iff_lt_mul hz0).2 hjl
  have hr:j % z'<z':=Nat.mod_lt _ hz0
  have e:j / z'*z'+j % z'=j:=by rw [Nat.mul_comm];exact Nat.div_add_mod j z'
  have:=flat_at (part:=part) vs.length h3 (j / z') hd (j % z') hr
  rw [e] at this
  rw [this] at hj
  have:=h2 (j / z') hd (j % z') c hj
  rwa [Nat.add_assoc,e] at this
theorem app_of {T T2 E:Nat} (hm:MRel P U I0 H w I ι) {y:V} {cy:Value} (hy:Slot w I ι H y cy) (hT:elemT P T=some E) (hok:(appSrc P H T T2 y).ok)
  (hz:∀v∈(appSrc P H T T2 y).vs,v.sz=P.cellsOf E) (hE:szO P E=some (P.cellsOf E)) (hzo:zeroOk P E (zeroT P E)=true) (hroom:roomOk P E (appSrc P H T T2 y).vs.length):
  ∃i z news,P.info? E=some i∧i.zero=some z∧i.size=P.cellsOf E∧z.cells.size=P.cellsOf E∧(∀u∈z.cells.toList,isCell u=true)∧byO P E=some i.bytes∧
   App P T T2 E i z cy (appSrc P H T T2 y).vs.length news w∧Imm w I (.agg (appSrc P H T T2 y).vs) news:=by
 obtain ⟨z,i,h1,h2,h3,h4,h5⟩:=zeroOk_spec (w:=w) (I:=I) hzo
 have hzz:(zeroT P E).sz=P.cellsOf E:=(cellsOf_sz h4).symm
 have his:i.size=P.cellsOf E:=by simp [szO,h1] at hE;exact hE
 have hzs:z.cells.size=P.cellsOf E:=by rw [←hzz,←h3.size];simp
 have hby:byO P E=some i.bytes:=by simp [byO,h1]
 have ht:=elemT_und hT
 unfold appSrc at hok hz hroom ⊢
 cases hk:kindT P T2 with
 |some k=>
  simp only [hk] at hok hz hroom ⊢
  cases y<;>try exact hok.elim
  rename_i k2 n
  cases k2<;>try exact hok.elim
  simp only [hT] at hok hz hroom ⊢
  have:=Slot.int_inv hy;subst this
  obtain ⟨q1,q2⟩:=hok
  obtain ⟨m,rfl⟩:=Int.eq_ofNat_of_zero_le q1
  simp only [Int.toNat_natCast,List.length_replicate] at hroom ⊢
  obtain ⟨b,hb1,hb2,hb3⟩:=hroom
  have hbi:i.bytes=b:=by simpa [hby] using hb1
  refine ⟨i,z,_,h1,h2,his,hzs,h3.cells,hby,App.ofZeros ht h1 h2 (kindT_und hk) (by rw [his,hzs]) h3.cells hb3 (by rw [hbi];omega), ?_⟩
  rw [zeroCells_list]
  exact imm_replicate h3 m
 |none=>
  simp only [hk] at hok hz hroom ⊢
  obtain ⟨q1,q2⟩:=hok
  by_cases hstr:∃s,y=.str s
  ·obtain ⟨s,rfl⟩:=hstr
   obtain ⟨e,hs⟩:=Slot.str_inv hy
   subst e
   simp only [seqOf] at hz hroom ⊢
   have hkind:(∃e',P.underlying T2=some (.slice e'))∨P.underlying T2=some .string:=by
    rcases Bool.or_eq_true_iff.1 q1 with h|h
    ·obtain ⟨e',he⟩:=Option.isSome_iff_exists.1 h
     exact .inl ⟨e',elemT_und he⟩
    ·exact .inr (strT_und h)
   have hbc:byteCells (⟨s.toArray⟩:ByteArray)=s.map fun b=>Value.int .u8 b.toNat:=by simp [byteCells]
   have himm:Imm w I (.agg (s.map fun b=>V.int .u8 b.toNat)) (s.map fun b=>Value.int .u8 b.toNat):=by
    have:Imm w I (.agg (s.map fun b=>V.int .u8 b.toNat)) ((List.range (s.map fun b=>V.int .u8 b.toNat).length).flatMap fun i=>((s.map fun b=>Value.int .u8 b.toNat)[i]?).toList):=by
     refine .agg fun i v hv=>?_
     rw [List.getElem?_map] at hv
     obtain ⟨b,hb,rfl⟩:=Option.map_eq_some_iff.1 hv
     rw [List.getElem?_map,hb]
     exact .int
    have e:∀l:List Value,((List.range l.length).flatMap fun i=>(l[i]?).toList)=l:=by
     intro l
     induction l with
     |nil=>rfl
     |cons a r ih=>rw [List.length_cons,List.range_succ_eq_map,List.flatMap_cons,List.flatMap_map];simpa using ih
    have e2:=e (s.map fun b=>Value.int .u8 b.toNat)
    rw [List.length_map] at this e2
    rwa [e2] at this
   refine ⟨i,z,s.map fun b=>Value.int .u8 b.toNat,h1,h2,his,hzs,h3.cells,hby,App.ofSrc ht h1 h2 ?_,himm⟩
   by_cases hs0:s=[]
   ·subst hs0
    exact ⟨hkind,fun _=>rfl,by simp [Builtin.firstCells],by simp [Builtin.firstCells],by simp,fun u hu=>by simp at hu⟩
   ·have hone:P.cellsOf E=1:=by
     obtain ⟨b,r,rfl⟩:=List.exists_cons_of_ne_nil hs0
     exact (hz _ (by simp;left;rfl)).symm
    rw [his,hone]
    have hf:=firstCells_string (P:=P) ⟨s.toArray⟩ w
    have hf2:=firstCells_string (P:=P) ⟨s.toArray⟩ w.drew
    rw [hbc,size_mk] at hf hf2
    refine ⟨hkind,fun _=>by simp [Builtin.lenOf,size_mk],by simpa using hf,by simpa using hf2,by simp,fun u hu=>?_⟩
    obtain ⟨_,_,rfl⟩:=List.mem_map.1 hu
    rfl
  ·have hns:∀s,y≠.str s:=fun s e=>hstr ⟨s,e⟩
   obtain ⟨a,cap,rfl,hseq,_⟩:=seq_rep hm hy q2 hns
   have hkind:(∃e',P.underlying T2=some (.slice e'))∨P.underlying T2=some .string:=by
    rcases Bool.or_eq_true_iff.1 q1 with h|h
    ·obtain ⟨e',he⟩:=Option.isSome_iff_exists.1 h
     exact .inl ⟨e',elemT_und he⟩
    ·exact .inr (strT_und h)
   obtain ⟨news,n1,n2,n3⟩:=seq_cells hseq hz
   refine ⟨i,z,news,h1,h2,his,hzs,h3.cells,hby,App.ofSrc ht h1 h2 ?_,n1⟩
   rw [his]
   have hfirst:∀w':World,(∀a,w'.cell? a=w.cell? a)→(Builtin.firstCells (P.cellsOf E) (seqOf H y).vs.length (.slice a (seqOf H y).vs.length cap)).run P w'=.ok news.toArray w':=by
    intro w' hw'
    by_cases hne:(seqOf H y).vs=[]
    ·rw [hne] at n2 ⊢
     have:news=[]:=List.length_eq_zero_iff.1 (by simpa using n2)
     subst this
     cases a with
     |none=>exact run_firstCells_none w' _ _ _ _
     |some a=>exact run_firstCells_some w' _ _ a _ _ [] (by simp) (fun j v h=>by simp at h)
    ·obtain ⟨b,off,rfl,hc⟩:=n3 hne
     exact run_firstCells_some w' _ _ _ _ _ news n2 (fun j v h=>by rw [addr_add,hw'];exact hc j v h)
   exact ⟨hkind,fun _=>rfl,hfirst w (fun _=>rfl),hfirst w.drew (fun _=>rfl),n2,n1.cells⟩
end
end GoL
