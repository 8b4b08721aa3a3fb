/- A part of the proof: a logic proved sound over the model; contracts; plain laws. -/
import Derived.Test.YteeaefidpkifbaaGB
import Derived.Scope
import Derived.Laws.Cover3
import Derived.Orders
set_option linter.all false
namespace GoL
open Go
section
variable {P:Program} {U I0:Nat→Prop} {H:Nat→Option Blk} {w:World} {I:Nat→Prop} {ι:Nat→Option Img} {id:Nat}
theorem Imm.append {as bs:List V} {xs ys:List Value} (h:Imm w I (.agg as) xs) (h':Imm w I (.agg bs) ys):Imm w I (.agg (as++bs)) (xs++ys):=by
 obtain ⟨p,e1,h1⟩:=h.agg_inv
 obtain ⟨q,e2,h2⟩:=h'.agg_inv
 have:Imm w I (.agg (as++bs)) ((List.range (as++bs).length).flatMap fun i=>if i<as.length then p i else q (i-as.length)):=by
  refine .agg fun i v hv=>?_
  by_cases hi:i<as.length
  ·rw [if_pos hi]
   rw [List.getElem?_append_left hi] at hv
   exact h1 i v hv
  ·rw [if_neg hi]
   rw [List.getElem?_append_right (by omega)] at hv
   exact h2 _ v hv
 rw [List.length_append,List.range_add,List.flatMap_append,List.flatMap_map] at this
 rw [e1,e2]
 have a1:((List.range as.length).flatMap fun i=>if i<as.length then p i else q (i-as.length))=(List.range as.length).flatMap p:=
  flatMap_congr' fun i hi=>by rw [if_pos (by simpa using hi)]
 have a2:((List.range bs.length).flatMap fun i=>if as.length+i<as.length then p (as.length+i) else q (as.length+i-as.length))=(List.range bs.length).flatMap q:=
  flatMap_congr' fun i hi=>by rw [if_neg (by omega),Nat.add_sub_cancel_left]
 rw [a1] at this
 rw [a2] at this
 exact this
theorem grown_row {E i:Nat} {z:Value} {olds news:List Value} {os ns:List V} (need cap:Nat) {I':Nat→Prop} {w':World} {ι':Nat→Option Img} {H':Nat→Option Blk}
  (hz1:z.cells.size=P.cellsOf E) (hzc:∀u∈z.cells.toList,isCell u=true) (ho:Imm w' I' (.agg os) olds) (hn:Imm w' I' (.agg ns) news) (hsz:∀v∈os++ns,v.sz=P.cellsOf E)
  (hneed:need=os.length+ns.length) (hcap:need≤cap) (hc63:cap≤lenMax) {b ty:Nat}
  (hb:w'.heap[b]? =some (.cells ((olds++news).toArray++Builtin.zeroCells z.cells (cap-need)) ty (0,0))) (hi:ι' i=some ⟨some b,cap,true⟩):
  BlkRep P w' I' ι' H' i ⟨some E,false,.agg (os++ns)⟩:=by
 refine ⟨_,hi,rfl,.inl ⟨os++ns,rfl,by simp;omega,hc63,olds++news,(Builtin.zeroCells z.cells (cap-need)).toList,⟨ty,(0,0), ?_,⟨Nat.le_refl _,fun o _ h=>by simp at h⟩, ?_⟩,ho.append hn, ?_,hsz⟩⟩
 ·rw [hb];congr 2;apply Array.ext';simp
 ·intro u hu
  rcases List.mem_append.1 hu with hu|hu
  ·exact (ho.append hn).cells u hu
  ·rw [zeroCells_list] at hu;exact isCell_flat hzc _ u hu
 ·have hl:(Builtin.zeroCells z.cells (cap-need)).toList.length=(cap-need)*P.cellsOf E:=by rw [Array.length_toList,size_zeroCells,hz1]
  rw [List.length_append,(ho.append hn).size,V.sz,szs_const hsz,hl,←Nat.add_mul,List.length_append]
  congr 1;simp only;omega
theorem does_appendV (hm:MRel P U I0 H w I ι) (hid:ι id=none) (T T2 T':Nat) {x y:V} {cx cy:Value} (hx:Slot w I ι H x cx) (hy:Slot w I ι H y cy) (h:(appendV P H id T T2 y x).ok):
  Does P U I0 H w I ι id (appendV P H id T T2 y x) (do pure (.value (←Builtin.append_ #[T,T2] T' #[cx,cy]))):=by
 unfold appendV at h ⊢
 split at h
 ·
  split at h
  ·rename_i E hT
   obtain ⟨k1,k2,k3,k4,k5⟩:=h
   have:=Slot.nils_inv hx;subst this
   obtain ⟨i,z,news,p1,p2,p3,p4,p5,p6,happ,himm⟩:=app_of hm hy hT k1 k2 k3 k4 k5
   generalize (appSrc P H T T2 y).vs=ns at*
   obtain ⟨b,hb1,hb2,hb3⟩:=k5
   have hbi:i.bytes=b:=by simpa [p6] using hb1
   by_cases hn:ns.length=0
   ·have hns:ns=[]:=List.length_eq_zero_iff.1 hn
    subst hns
    have hrun:=happ.none rfl T'
    obtain ⟨g1,g2,g3⟩:=new_empty (P:=P) (U:=U) (I0:=I0) hm hid E
    refine ⟨_,_,w,I,_,by simp only [Sem.run_bind,hrun,Result.andThen_ok,Sem.run_pure];rfl,.inl rfl,trivial, ?_, ?_, ?_,g3⟩
    ·refine Rep.sl rfl (setO_same _ _ _) fun E' fz rows hr=>?_
     simp only [zG,over_nil,setO_same] at hr
     cases hr
     simp
    ·show MRel P U I0 (over H [(id,_)]) _ _ _
     rw [zG,over_nil];exact g1
    ·show MGo U I I ι _ H (over H [(id,_)]) _ _
     rw [zG,over_nil];exact g2
   ·have hrun:=happ.grow T' none 0 0 [] (by simp [Builtin.firstCells]) (by omega) (by omega) (growslice_fits (by omega) (by rw [hbi,Nat.zero_add];exact hb2))
    simp only [Nat.zero_add,List.nil_append] at hrun
    have hge:=grownCap_ge w ns.length 0 E
    have hcm:grownCap w ns.length 0 E≤lenMax:=grownCap_le_maxLen w ns.length 0 E hb3
    have hp:(w.drew.alloc (.cells (news.toArray++Builtin.zeroCells z.cells (grownCap w ns.length 0 E-ns.length)) E)).heap=w.heap.push (.cells (news.toArray++Builtin.zeroCells z.cells (grownCap w ns.length 0 E-ns.length)) E):=rfl
    obtain ⟨g1,g2,g3⟩:=new_block (P:=P) (U:=U) (I0:=I0) hm hid hp ⟨rfl,rfl,rfl⟩ (blk:=⟨some E,false,.agg ns⟩) (cap:=grownCap w ns.length 0 E) (a:=true) rfl (fun hk hg=>by
     have he:Imm (w.drew.alloc (.cells (news.toArray++Builtin.zeroCells z.cells (grownCap w ns.length 0 E-ns.length)) E)) I (.agg []) []:=by
      have:Imm (w.drew.alloc (.cells (news.toArray++Builtin.zeroCells z.cells (grownCap w ns.length 0 E-ns.length)) E)) I (.agg []) ((List.range ([]:List V).length).flatMap fun _=>[]):=.agg fun i v hv=>by simp at hv
      simpa using this
     exact grown_row (olds:=[]) (os:=[]) ns.length (grownCap w ns.length 0 E) p4 p5 he (himm.mono hk (fun _ h=>h)) (by simpa using k2) (by simp) hge hcm (ty:=E) (by rw [heap_push_new hp];simp) (setO_same _ _ _))
    refine ⟨_,_,_,I,_,by simp only [Sem.run_bind,hrun,Result.andThen_ok,Sem.run_pure];rfl,.inl rfl,trivial, ?_, ?_, ?_,g3⟩
    ·refine Rep.sl rfl (setO_same _ _ _) fun E' fz rows hr=>?_
     simp only [zG,over_nil,setO_same] at hr
     cases hr
     simp
    ·show MRel P U I0 (over H [(id,_)]) _ _ _
     rw [zG,over_nil];exact g1
    ·show MGo U I I ι _ H (over H [(id,_)]) _ _
     rw [zG,over_nil];exact g2
  ·exact h.elim
 ·
  rename_i vs
  split at h
  ·rename_i E hT
   obtain ⟨k1,k0,k2,k3,k4,k5⟩:=h
   have k2':∀v∈(appSrc P H T T2 y).vs,v.sz=P.cellsOf E:=fun v hv=>k2 v (List.mem_append_right _ hv)
   have k5':roomOk P E (appSrc P H T T2 y).vs.length:=by
    obtain ⟨b,q1,q2,q3⟩:=k5
    exact ⟨b,q1,Nat.le_trans (Nat.mul_le_mul_right _ (by omega)) q2,by omega⟩
   obtain ⟨a,cap,e,hseq,hfull,_⟩:=seq_rep hm hx (x:=.list true vs) trivial (fun s e=>by cases e)
   have hcv:=hfull vs rfl
   subst hcv
   simp only [seqOf] at e hseq
   subst e
   obtain ⟨i,z,news,p1,p2,p3,p4,p5,p6,happ,himm⟩:=app_of hm hy hT k1 k2' k3 k4 k5'
   obtain ⟨olds,o1,o2,o3⟩:=seq_cells hseq (fun v hv=>k2 v (List.mem_append_left _ hv))
   generalize (appSrc P H T T2 y).vs=ns at*
   obtain ⟨b,hb1,hb2,hb3⟩:=k5
   have hbi:i.bytes=b:=by simpa [p6] using hb1
   have hn:0<ns.length:=List.length_pos_iff.2 k0
   have hfirst:(Builtin.firstCells i.size vs.length (.slice a vs.length vs.length)).run P w.drew=.ok olds.toArray w.drew:=by
    rw [p3]
    by_cases hne:vs=[]
    ·subst hne
     have:olds=[]:=List.length_eq_zero_iff.1 (by simpa using o2)
     subst this
     cases a with
     |none=>exact run_firstCells_none _ _ _ _ _
     |some a=>exact run_firstCells_some _ _ _ a _ _ [] (by simp) (fun j v h=>by simp at h)
    ·obtain ⟨b,off,rfl,hc⟩:=o3 hne
     exact run_firstCells_some _ _ _ _ _ _ olds o2 (fun j v h=>by rw [addr_add];exact hc j v h)
   have hrun:=happ.grow T' a vs.length vs.length olds hfirst (by omega) hb3 (growslice_fits (by omega) (by rw [hbi];exact hb2))
   have hge:=grownCap_ge w (vs.length+ns.length) vs.length E
   have hcm:grownCap w (vs.length+ns.length) vs.length E≤lenMax:=grownCap_le_maxLen w _ _ E hb3
   have hp:(w.drew.alloc (.cells ((olds++news).toArray++Builtin.zeroCells z.cells (grownCap w (vs.length+ns.length) vs.length E-(vs.length+ns.length))) E)).heap=
    w.heap.push (.cells ((olds++news).toArray++Builtin.zeroCells z.cells (grownCap w (vs.length+ns.length) vs.length E-(vs.length+ns.length))) E):=rfl
   obtain ⟨g1,g2,g3⟩:=new_block (P:=P) (U:=U) (I0:=I0) hm hid hp ⟨rfl,rfl,rfl⟩ (blk:=⟨some E,false,.agg (vs++ns)⟩) (cap:=grownCap w (vs.length+ns.length) vs.length E) (a:=true) rfl (fun hk hg=>
    grown_row (vs.length+ns.length) (grownCap w (vs.length+ns.length) vs.length E) p4 p5 (o1.mono hk (fun _ h=>h)) (himm.mono hk (fun _ h=>h)) k2 rfl hge hcm (heap_push_new hp) (setO_same _ _ _))
   refine ⟨_,_,_,I,_,by simp only [Sem.run_bind,hrun,Result.andThen_ok,Sem.run_pure];rfl,.inl rfl,trivial, ?_, ?_, ?_,g3⟩
   ·refine Rep.sl rfl (setO_same _ _ _) fun E' fz rows hr=>?_
    simp only [zG,over_nil,setO_same] at hr
    cases hr
    simp
   ·show MRel P U I0 (over H [(id,_)]) _ _ _
    rw [zG,over_nil];exact g1
   ·show MGo U I I ι _ H (over H [(id,_)]) _ _
    rw [zG,over_nil];exact g2
  ·exact h.elim
 ·
  rename_i j len
  split at h
  ·rename_i E E' rows hT hH
   obtain ⟨k0,rfl,k1,k2,k3,k4,k5⟩:=h
   have k5':roomOk P E (appSrc P H T T2 y).vs.length:=by
    obtain ⟨b,q1,q2,q3⟩:=k5
    exact ⟨b,q1,Nat.le_trans (Nat.mul_le_mul_right _ (by omega)) q2,by omega⟩
   obtain ⟨c,img,hc,hi,hr⟩:=Rep.sl_inv hx
   have hcx:cx=c:=by simpa using hc
   subst hcx
   have hcx:=(hr E false rows hH).2 k0
   subst hcx
   subst k0
   obtain ⟨i,z,news,p1,p2,p3,p4,p5,p6,happ,himm⟩:=app_of hm hy hT k1 k2 k3 k4 k5'
   generalize (appSrc P H T T2 y).vs=ns at*
   obtain ⟨b0,hb1,hb2,hb3⟩:=k5
   have hbi:i.bytes=b0:=by simpa [p6] using hb1
   have harr:=arr_of hm hi hH
   have hseq:=seq_arr harr
   have hrz:∀r∈rows,r.sz=P.cellsOf E∨img.b=none:=by
    obtain ⟨_,_,h3⟩:=harr
    intro r hr
    cases hb:img.b with
    |none=>exact .inr rfl
    |some b=>rw [hb] at h3;obtain ⟨_,_,_,_,_,h4⟩:=h3;exact .inl (h4 r hr)
   by_cases hroom:rows.length+ns.length≤img.cap
   ·cases hb:img.b with
    |none=>
     obtain ⟨h1,h2,h3⟩:=harr
     rw [hb] at h3
     have h3:img.cap=0:=h3
     have hr0:rows=[]:=List.length_eq_zero_iff.1 (by omega)
     have hn0:ns=[]:=List.length_eq_zero_iff.1 (by omega)
     subst hr0;subst hn0
     have hrun:=happ.none rfl T'
     simp only [Option.map_none,List.length_nil,h3]
     have hHH:over H [(j,⟨some E,false,.agg ([]++[])⟩)]=H:=by
      rw [zG,over_nil]
      funext k
      by_cases hk:k=j
      ·subst hk;rw [setO_same];exact hH.symm
      ·rw [zV _ _ hk]
     refine ⟨_,_,w,I,ι,by simp only [Sem.run_bind,hrun,Result.andThen_ok,Sem.run_pure];rfl,.inl rfl,trivial, ?_, ?_, ?_,fun _ _ h=>h⟩
     ·show Rep w I ι (over H [(j,_)]) _ _
      rw [hHH]
      refine Rep.sl rfl hi fun E' fz rows hr=>?_
      rw [hH] at hr;cases hr
      simp [hb,h3]
     ·show MRel P U I0 (over H [(j,_)]) _ _ _
      rw [hHH];exact hm
     ·show MGo U I I ι _ H (over H [(j,_)]) _ _
      rw [hHH];exact MGo.refl
    |some b=>
     obtain ⟨h1,h2,h3⟩:=harr
     rw [hb] at h3
     obtain ⟨front,spare,f1,f2,f3,f4⟩:=h3
     have hfl:front.length=rows.length*P.cellsOf E:=by rw [f2.size,V.sz];exact szs_const f4
     have hnl:news.length=ns.length*P.cellsOf E:=by rw [happ.len,p3]
     have hle:rows.length*P.cellsOf E+news.length≤(front++spare).length:=by rw [hnl,f3,←Nat.add_mul];exact Nat.mul_le_mul_right _ hroom
     have hrun:=happ.room T' b 0 rows.length img.cap hroom
      (fun k hk=>by
       rw [blk_cell f1,List.getElem?_eq_getElem (by rw [p3];omega)];rfl)
      (fun k hk=>blk_frozen f1 _ (by rw [p3];omega))
     simp only [Nat.zero_add,p3] at hrun
     have hput:=blk_put f1 hle happ.one
     have hnew:(front++spare).take (rows.length*P.cellsOf E)++news++(front++spare).drop (rows.length*P.cellsOf E+news.length)=(front++news)++spare.drop news.length:=by
      rw [←hfl,List.take_left,List.drop_append]
      simp
     rw [hnew] at hput
     have hg:HGo ι ι H (setO H j ⟨some E,false,.agg (rows++ns)⟩):=by
      intro k m hk
      refine ⟨m,hk,fun _=>rfl,fun E' fz rws hr=>?_⟩
      by_cases hkj:k=j
      ·subst hkj
       rw [setO_same] at hr;cases hr
       exact ⟨E,false,rows,hH,by simp,fun _=>rfl⟩
      ·rw [zV _ _ hkj] at hr;exact ⟨E',fz,rws,hr,Nat.le_refl _,fun _=>rfl⟩
     obtain ⟨g1,g2⟩:=put_block (P:=P) (U:=U) (I0:=I0) hm hH rfl hi hb (w':=w.setCells b (rows.length*P.cellsOf E) news) (blk':=⟨some E,false,.agg (rows++ns)⟩)
      (fun k hk=>setCells_heap_ne b _ _ w k hk) (setCells_size b _ _ w) (setCells_env b _ _ w) rfl hg
      (fun hk=>by
       obtain ⟨img2,u1,u2,_⟩:=hm.heap _ _ hH
       rw [hi] at u1;cases u1
       refine ⟨img,hi,u2,.inl ⟨rows++ns,rfl,by simpa using hroom,h2, ?_⟩⟩
       rw [hb]
       refine ⟨front++news,spare.drop news.length,hput,(f2.mono hk (fun _ h=>h)).append (himm.mono hk (fun _ h=>h)), ?_, ?_⟩
       ·rw [List.length_append] at f3 hle
        simp only [List.length_append,List.length_drop]
        omega
       ·intro r hr
        rcases List.mem_append.1 hr with hr|hr
        ·exact f4 r hr
        ·exact k2 r hr)
     simp only [Option.map_some]
     refine ⟨_,_,_,I,ι,by simp only [Sem.run_bind,hrun,Result.andThen_ok,Sem.run_pure];rfl,.inl rfl,trivial, ?_, ?_, ?_,fun _ _ h=>h⟩
     ·refine Rep.sl rfl hi fun E' fz rws hr=>?_
      simp only [zG,over_nil,setO_same] at hr
      cases hr
      simp [hb]
     ·show MRel P U I0 (over H [(j,_)]) _ _ _
      rw [zG,over_nil];exact g1
     ·show MGo U I I ι _ H (over H [(j,_)]) _ _
      rw [zG,over_nil];exact g2
   ·have hrz':∀r∈rows,r.sz=P.cellsOf E:=by
     intro r hr
     rcases hrz r hr with h|h
     ·exact h
     ·obtain ⟨h1,h2,h3⟩:=harr
      rw [h] at h3
      have h3:img.cap=0:=h3
      have:rows.length=0:=by omega
      rw [List.length_eq_zero_iff.1 this] at hr;cases hr
    obtain ⟨olds,o1,o2,o3⟩:=seq_cells hseq hrz'
    have hfirst:(Builtin.firstCells i.size rows.length (.slice (img.b.map (⟨·,0,none⟩)) rows.length img.cap)).run P w.drew=.ok olds.toArray w.drew:=by
     rw [p3]
     by_cases hne:rows=[]
     ·subst hne
      have:olds=[]:=List.length_eq_zero_iff.1 (by simpa using o2)
      subst this
      cases img.b with
      |none=>exact run_firstCells_none _ _ _ _ _
      |some a=>exact run_firstCells_some _ _ _ _ _ _ [] (by simp) (fun j v h=>by simp at h)
     ·obtain ⟨b,off,hbb,hc⟩:=o3 hne
      rw [hbb]
      exact run_firstCells_some _ _ _ _ _ _ olds o2 (fun j v h=>by rw [addr_add];exact hc j v h)
    have hle:=harr.1
    have hrun:=happ.grow T' (img.b.map (⟨·,0,none⟩)) rows.length img.cap olds hfirst (by omega) hb3 (growslice_fits (by omega) (by rw [hbi];exact hb2))
    have hge:=grownCap_ge w (rows.length+ns.length) img.cap E
    have hcm:grownCap w (rows.length+ns.length) img.cap E≤lenMax:=grownCap_le_maxLen w _ _ E hb3
    have hp:(w.drew.alloc (.cells ((olds++news).toArray++Builtin.zeroCells z.cells (grownCap w (rows.length+ns.length) img.cap E-(rows.length+ns.length))) E)).heap=
     w.heap.push (.cells ((olds++news).toArray++Builtin.zeroCells z.cells (grownCap w (rows.length+ns.length) img.cap E-(rows.length+ns.length))) E):=rfl
    have harrT:img.arr=true:=by
     obtain ⟨img2,u1,u2,_⟩:=hm.heap _ _ hH
     rw [hi] at u1;cases u1
     exact u2
    have hg:HGo ι (setO ι j ⟨some w.heap.size,grownCap w (rows.length+ns.length) img.cap E,true⟩) H (setO H j ⟨some E,false,.agg (rows++ns)⟩):=by
     intro k m hk
     by_cases hkj:k=j
     ·subst hkj
      rw [hi] at hk;cases hk
      refine ⟨_,setO_same _ _ _,fun ha=>(by rw [harrT] at ha;cases ha),fun E' fz rws hr=>?_⟩
      rw [setO_same] at hr;cases hr
      refine ⟨E,false,rows,hH,by simp,fun he=>?_⟩
      simp only [List.length_append] at he
      omega
     ·exact ⟨m,by rw [zV _ _ hkj];exact hk,fun _=>rfl,fun E' fz rws hr=>by rw [zV _ _ hkj] at hr;exact ⟨E',fz,rws,hr,Nat.le_refl _,fun _=>rfl⟩⟩
    obtain ⟨g1,g2,g3⟩:=move_block (P:=P) (U:=U) (I0:=I0) hm hp ⟨rfl,rfl,rfl⟩ (blk:=⟨some E,false,.agg (rows++ns)⟩) (cap:=grownCap w (rows.length+ns.length) img.cap E) (a:=true) rfl hg (fun hk=>
     grown_row (rows.length+ns.length) (grownCap w (rows.length+ns.length) img.cap E) p4 p5 (o1.mono hk (fun _ h=>h)) (himm.mono hk (fun _ h=>h))
      (fun v hv=>(List.mem_append.1 hv).elim (hrz' v) (k2 v)) rfl hge hcm (heap_push_new hp) (setO_same _ _ _))
    refine ⟨_,_,_,I,setO ι j ⟨some w.heap.size,grownCap w (rows.length+ns.length) img.cap E,true⟩,by simp only [Sem.run_bind,hrun,Result.andThen_ok,Sem.run_pure];rfl,.inl rfl,trivial, ?_, ?_, ?_,fun k hk h=>?_⟩
    ·refine Rep.sl rfl (setO_same _ _ _) fun E' fz rws hr=>?_
     simp only [zG,over_nil,setO_same] at hr
     cases hr
     simp
    ·show MRel P U I0 (over H [(j,_)]) _ _ _
     rw [zG,over_nil];exact g1
    ·show MGo U I I ι _ H (over H [(j,_)]) _ _
     rw [zG,over_nil];exact g2
    ·have hkj:k≠j:=fun e=>by rw [e,hi] at h;cases h
     rw [zV _ _ hkj];exact h
  ·exact h.elim
 ·exact h.elim
end
open Go
section
variable {P:Program} {U I0:Nat→Prop} {H:Nat→Option Blk} {w:World} {I:Nat→Prop} {ι:Nat→Option Img} {id:Nat}
theorem imm_of_arr {E:Nat} {rows:List V} {img:Img} (h:ArrAt P w I img E rows) (hI:∀b,img.b=some b→I b):Imm w I (.list false rows) [.slice (img.b.map (⟨·,0,none⟩)) rows.length img.cap]:=by
 have hs:=seq_arr h
 obtain ⟨h1,h2,h3⟩:=h
 cases hb:img.b with
 |none=>
  rw [hb] at h3
  have h3:img.cap=0:=h3
  have:rows=[]:=List.length_eq_zero_iff.1 (by omega)
  subst this
  exact .list (a:=none) (sz:=0) (part:=fun _=>[]) h1 h2 (fun h=>by cases h) (fun h=>absurd rfl h) (fun i h=>by simp at h) (fun i v h=>by simp at h)
 |some b=>
  obtain ⟨front,spare,part,k1,k2,k3,k4,k5⟩:=arr_front (img:=img) ⟨h1,h2,h3⟩ hb
  refine .list (sz:=P.cellsOf E) (part:=part) h1 h2 (fun h=>by cases h) (fun hne=>⟨⟨b,0,none⟩,rfl,rfl,hI b hb, ?_⟩) k4 k3
  exact cellsAt_part k4 (k2▸cellsAt_front k1)
theorem mrel_drop (hm:MRel P U I0 H w I ι) {H':Nat→Option Blk} (h:∀i b,H' i=some b→H i=some b) (hb:∀i b,H' i=some b→BlkRep P w I ι H' i b):MRel P U I0 H' w I ι:=
 { heap:=hb,inj:=hm.inj,img:=hm.img,live:=fun i b m x hi=>hm.live i b m x (h i b hi),bnd:=hm.bnd,org:=hm.org,new:=hm.new }
theorem hgo_drop {H':Nat→Option Blk} (h:∀i b,H' i=some b→H i=some b):HGo ι ι H H':=fun k m hk=>⟨m,hk,fun _=>rfl,fun E fz rws hr=>⟨E,fz,rws,h _ _ hr,Nat.le_refl _,fun _=>rfl⟩⟩
theorem does_appendFV (hm:MRel P U I0 H w I ι) (hid:ι id=none) (T T2 T':Nat) {x y:V} {cx cy:Value} (hx:Slot w I ι H x cx) (hy:Slot w I ι H y cy) (h:(appendFV P H T T2 y x).ok):
  Does P U I0 H w I ι id (appendFV P H T T2 y x) (do pure (.value (←Builtin.append_ #[T,T2] T' #[cx,cy]))):=by
 unfold appendFV at h ⊢
 split at h
 ·rename_i j len
  split at h
  ·rename_i E E' rows hT hH
   obtain ⟨k0,rfl,k1,kn,k2,k3,k4,k5⟩:=h
   have k5':roomOk P E (appSrc P H T T2 y).vs.length:=by
    obtain ⟨b,q1,q2,q3⟩:=k5
    exact ⟨b,q1,Nat.le_trans (Nat.mul_le_mul_right _ (by omega)) q2,by omega⟩
   obtain ⟨c,img,hc,hi,hr⟩:=Rep.sl_inv hx
   have hcx:cx=c:=by simpa using hc
   subst hcx
   have hcx:=(hr E false rows hH).2 k0
   subst hcx
   subst k0
   obtain ⟨i,z,news,p1,p2,p3,p4,p5,p6,happ,himm⟩:=app_of hm hy hT k1 k2 k3 k4 k5'
   generalize (appSrc P H T T2 y).vs=ns at*
   obtain ⟨b0,hb1,hb2,hb3⟩:=k5
   have hbi:i.bytes=b0:=by simpa [p6] using hb1
   have harr:=arr_of hm hi hH
   have hseq:=seq_arr harr
   have hrz:∀r∈rows,r.sz=P.cellsOf E∨img.b=none:=by
    obtain ⟨_,_,h3⟩:=harr
    intro r hr
    cases hb:img.b with
    |none=>exact .inr rfl
    |some b=>rw [hb] at h3;obtain ⟨_,_,_,_,_,h4⟩:=h3;exact .inl (h4 r hr)
   have hpos:0<ns.length:=List.length_pos_iff.2 kn
   by_cases hroom:rows.length+ns.length≤img.cap
   ·cases hb:img.b with
    |none=>
     obtain ⟨h1,h2,h3⟩:=harr
     rw [hb] at h3
     have h3:img.cap=0:=h3
     omega
    |some b=>
     obtain ⟨h1,h2,h3⟩:=harr
     rw [hb] at h3
     obtain ⟨front,spare,f1,f2,f3,f4⟩:=h3
     have hfl:front.length=rows.length*P.cellsOf E:=by rw [f2.size,V.sz];exact szs_const f4
     have hnl:news.length=ns.length*P.cellsOf E:=by rw [happ.len,p3]
     have hle:rows.length*P.cellsOf E+news.length≤(front++spare).length:=by rw [hnl,f3,←Nat.add_mul];exact Nat.mul_le_mul_right _ hroom
     have hrun:=happ.room T' b 0 rows.length img.cap hroom
      (fun k hk=>by
       rw [blk_cell f1,List.getElem?_eq_getElem (by rw [p3];omega)];rfl)
      (fun k hk=>blk_frozen f1 _ (by rw [p3];omega))
     simp only [Nat.zero_add,p3] at hrun
     have hput:=blk_put f1 hle happ.one
     have hnew:(front++spare).take (rows.length*P.cellsOf E)++news++(front++spare).drop (rows.length*P.cellsOf E+news.length)=(front++news)++spare.drop news.length:=by
      rw [←hfl,List.take_left,List.drop_append]
      simp
     rw [hnew] at hput
     have hsame:setO H j ⟨some E,false,.agg rows⟩=H:=by
      funext k
      by_cases hk:k=j
      ·subst hk;rw [setO_same];exact hH.symm
      ·rw [zV _ _ hk]
     have hfs:(front++news++spare.drop news.length).length=img.cap*P.cellsOf E:=by
      rw [List.length_append] at f3 hle
      simp only [List.length_append,List.length_drop]
      omega
     obtain ⟨g1,g2⟩:=put_block (P:=P) (U:=U) (I0:=I0) hm hH rfl hi hb (w':=w.setCells b (rows.length*P.cellsOf E) news) (blk':=⟨some E,false,.agg rows⟩)
      (fun k hk=>setCells_heap_ne b _ _ w k hk) (setCells_size b _ _ w) (setCells_env b _ _ w) rfl (by rw [hsame];exact hgo_drop fun _ _ h=>h)
      (fun hk=>by
       obtain ⟨img2,u1,u2,_⟩:=hm.heap _ _ hH
       rw [hi] at u1;cases u1
       refine ⟨img,hi,u2,.inl ⟨rows,rfl,h1,h2, ?_⟩⟩
       rw [hb]
       exact ⟨front,news++spare.drop news.length,by rw [←List.append_assoc];exact hput,f2.mono hk (fun _ h=>h),by rw [←List.append_assoc];exact hfs,f4⟩)
     rw [hsame] at g1 g2
     obtain ⟨I',hI',m1,m2⟩:=freeze_one g1 hH
     have hsub:∀x,I x→I' x:=fun x h=>(hI' x).2 (.inl h)
     have harr':ArrAt P (w.setCells b (rows.length*P.cellsOf E) news) I' img E (rows++ns):=by
      refine ⟨by simpa using hroom,h2, ?_⟩
      rw [hb]
      refine ⟨front++news,spare.drop news.length,hput,(f2.mono g2.kI hsub).append (himm.mono g2.kI hsub),hfs,fun r hr=>?_⟩
      rcases List.mem_append.1 hr with hr|hr
      ·exact f4 r hr
      ·exact k2 r hr
     have hv:=imm_of_arr harr' (fun b' hb'=>(hI' b').2 (.inr ⟨img,hi,hb'⟩))
     simp only [hb,Option.map_some,List.length_append] at hv
     simp only [Option.map_some]
     refine ⟨_,_,_,I',ι,by simp only [Sem.run_bind,hrun,Result.andThen_ok,Sem.run_pure],.inl rfl,trivial,.imm hv, ?_, ?_,fun _ _ h=>h⟩
     ·show MRel P U I0 (over H [(j,_)]) _ _ _
      rw [zG,over_nil];exact m1
     ·show MGo U I I' ι _ H (over H [(j,_)]) _ _
      rw [zG,over_nil];exact g2.trans m2
   ·have hrz':∀r∈rows,r.sz=P.cellsOf E:=by
     intro r hr
     rcases hrz r hr with h|h
     ·exact h
     ·obtain ⟨h1,h2,h3⟩:=harr
      rw [h] at h3
      have h3:img.cap=0:=h3
      have:rows.length=0:=by omega
      rw [List.length_eq_zero_iff.1 this] at hr;cases hr
    obtain ⟨olds,o1,o2,o3⟩:=seq_cells hseq hrz'
    have hfirst:(Builtin.firstCells i.size rows.length (.slice (img.b.map (⟨·,0,none⟩)) rows.length img.cap)).run P w.drew=.ok olds.toArray w.drew:=by
     rw [p3]
     by_cases hne:rows=[]
     ·subst hne
      have:olds=[]:=List.length_eq_zero_iff.1 (by simpa using o2)
      subst this
      cases img.b with
      |none=>exact run_firstCells_none _ _ _ _ _
      |some a=>exact run_firstCells_some _ _ _ _ _ _ [] (by simp) (fun j v h=>by simp at h)
     ·obtain ⟨b,off,hbb,hc⟩:=o3 hne
      rw [hbb]
      exact run_firstCells_some _ _ _ _ _ _ olds o2 (fun j v h=>by rw [addr_add];exact hc j v h)
    have hle:=harr.1
    have hrun:=happ.grow T' (img.b.map (⟨·,0,none⟩)) rows.length img.cap olds hfirst (by omega) hb3 (growslice_fits (by omega) (by rw [hbi];exact hb2))
    have hge:=grownCap_ge w (rows.length+ns.length) img.cap E
    have hcm:grownCap w (rows.length+ns.length) img.cap E≤lenMax:=grownCap_le_maxLen w _ _ E hb3
    have hp:(w.drew.alloc (.cells ((olds++news).toArray++Builtin.zeroCells z.cells (grownCap w (rows.length+ns.length) img.cap E-(rows.length+ns.length))) E)).heap=
     w.heap.push (.cells ((olds++news).toArray++Builtin.zeroCells z.cells (grownCap w (rows.length+ns.length) img.cap E-(rows.length+ns.length))) E):=rfl
    have hHid:H id=none:=by
     cases e:H id with
     |none=>rfl
     |some blk=>obtain ⟨im,q,_⟩:=hm.heap _ _ e;rw [hid] at q;cases q
    have hji:j≠id:=fun e=>by rw [e,hid] at hi;cases hi
    obtain ⟨g1,g2,g3⟩:=new_block (P:=P) (U:=U) (I0:=I0) hm hid hp ⟨rfl,rfl,rfl⟩ (blk:=⟨some E,false,.agg (rows++ns)⟩) (cap:=grownCap w (rows.length+ns.length) img.cap E) (a:=true) rfl (fun hk hg=>
     grown_row (rows.length+ns.length) (grownCap w (rows.length+ns.length) img.cap E) p4 p5 (o1.mono hk (fun _ h=>h)) (himm.mono hk (fun _ h=>h))
      (fun v hv=>(List.mem_append.1 hv).elim (hrz' v) (k2 v)) rfl hge hcm (heap_push_new hp) (setO_same _ _ _))
    obtain ⟨I1,hI1,m1,m2⟩:=freeze_one g1 (setO_same _ _ _)
    have hHj:setO (setO H id ⟨some E,false,.agg (rows++ns)⟩) id ⟨some E,true,.agg (rows++ns)⟩ j=some ⟨some E,false,.agg rows⟩:=by
     rw [zV _ _ hji,zV _ _ hji];exact hH
    obtain ⟨I2,hI2,n1,n2⟩:=freeze_one m1 hHj
    have hdrop:∀k bk,setO H j ⟨some E,true,.agg rows⟩ k=some bk→setO (setO (setO H id ⟨some E,false,.agg (rows++ns)⟩) id ⟨some E,true,.agg (rows++ns)⟩) j ⟨some E,true,.agg rows⟩ k=some bk:=fun k bk h=>by
     by_cases hk:k=j
     ·subst hk;rw [setO_same] at h ⊢;exact h
     ·rw [zV _ _ hk] at h ⊢
      have hki:k≠id:=fun e=>by rw [e,hHid] at h;cases h
      rw [zV _ _ hki,zV _ _ hki];exact h
    have harr2:=arr_of n1 (i:=id) (setO_same _ _ _) (by rw [zV _ _ (Ne.symm hji),setO_same])
    have hv:=imm_of_arr harr2 (fun b' hb'=>(hI2 b').2 (.inl ((hI1 b').2 (.inr ⟨_,setO_same _ _ _,hb'⟩))))
    simp only [Option.map_some,List.length_append] at hv
    refine ⟨_,_,_,I2,_,by simp only [Sem.run_bind,hrun,Result.andThen_ok,Sem.run_pure],.inl rfl,trivial,.imm hv, ?_, ?_,g3⟩
    ·show MRel P U I0 (over H [(j,_)]) _ _ _
     rw [zG,over_nil]
     exact mrel_drop n1 hdrop (fun k bk hk=>(n1.heap k bk (hdrop k bk hk)).mono rfl (fun _ _ _ _=>rfl) (keep.refl _) (fun _ h=>h) (hgo_drop hdrop) rfl rfl)
    ·show MGo U I I2 ι _ H (over H [(j,_)]) _ _
     rw [zG,over_nil]
     exact ((g2.trans m2).trans n2).trans ⟨keep.refl _,fun _ _=>rfl,fun _ h=>h,hgo_drop hdrop,Nat.le_refl _,rfl,rfl,rfl⟩
  ·exact h.elim
 ·exact h.elim
end
open Go Go.Lib
section
variable {P:Program} {U I0:Nat→Prop} {H:Nat→Option Blk} {w:World} {I:Nat→Prop} {ι:Nat→Option Img} {id:Nat}
theorem imm_bytes {w:World} {I:Nat→Prop} {vs:List V} {cs:List Value} (h:Imm w I (.agg vs) cs) (hb:∀v∈vs,isByte v):cs=(vs.map fun v=>((byteV v).toNat:Int)).map (Value.int .u8):=by
 obtain ⟨part,rfl,hp⟩:=h.agg_inv
 clear h
 induction vs generalizing part with
 |nil=>rfl
 |cons a r ih=>
  rw [parts_cons,List.map_cons,List.map_cons]
  have h0:=hp 0 a rfl
  rw [hb a (by simp)] at h0
  have:part 0=[.int .u8 (byteV a).toNat]:=by generalize part 0=p at h0;cases h0;rfl
  rw [this,ih (fun v hv=>hb v (by simp [hv])) (fun i=>part (i+1)) (fun i v hv=>hp (i+1) v (by simpa using hv))]
  rfl
theorem push_fold (ns:List UInt8):∀s:ByteArray,(ns.map fun b=>(b.toNat:Int)).foldl (fun r n=>r.push (UInt8.ofNat n.toNat)) s=s++⟨ns.toArray⟩:=by
 induction ns with
 |nil=>intro s;apply ByteArray.ext;simp
 |cons a r ih=>
  intro s
  rw [List.map_cons,List.foldl_cons,ih]
  apply ByteArray.ext
  simp [ByteArray.push]
theorem imm_bytes_of (s:List UInt8):Imm w I (.agg (s.map fun b=>V.int .u8 b.toNat)) (s.map fun b=>Value.int .u8 b.toNat):=by
 induction s with
 |nil=>
  have:Imm w I (.agg []) ((List.range ([]:List V).length).flatMap fun _=>[]):=.agg fun i v hv=>by simp at hv
  simpa using this
 |cons a r ih=>
  have h1:Imm w I (.agg [.int .u8 a.toNat]) ((List.range [V.int .u8 a.toNat].length).flatMap fun _=>[Value.int .u8 a.toNat]):=.agg fun i v hv=>by
   cases i with
   |zero=>simp at hv;subst hv;exact .int
   |succ i=>simp at hv
  have h1:Imm w I (.agg [.int .u8 a.toNat]) [Value.int .u8 a.toNat]:=by simpa using h1
  exact h1.append ih
theorem conv_bytes (hm:MRel P U I0 H w I ι) (S D:Nat) {x:V} {cx:Value} (hx:Slot w I ι H x cx) {E:Nat} (hE:elemT P S=some E) (k1:kindT P E=some .u8) (k2:szO P E=some 1) (k3:strT P D=true)
  (k4:(seqOf H x).ok) (k6:∀v∈(seqOf H x).vs,isByte v) (hns:∀s,x≠.str s):
  Does P U I0 H w I ι id { v:=.str ((seqOf H x).vs.map byteV) } (do pure (.value (←convert S D cx))):=by
 obtain ⟨a,cap,rfl,hseq,_⟩:=seq_rep hm hx k4 hns
 have hz:∀v∈(seqOf H x).vs,v.sz=1:=fun v hv=>by rw [k6 v hv];rfl
 obtain ⟨cs,c1,c2,c3⟩:=seq_cells hseq hz
 have hcs:=imm_bytes c1 k6
 generalize (seqOf H x).vs=vs at*
 have hlen:(vs.map byteV).length≤lenMax:=by simp;exact Nat.le_trans hseq.le hseq.cap
 refine does_pure hm (cv:=.string ⟨(vs.map byteV).toArray⟩) ?_ trivial (slot_str hlen)
 rw [run_convert_bytes_string w S D E a vs.length cap (elemT_und hE) (kindT_und k1) (strT_und k3)]
 cases a with
 |none=>
  have:vs=[]:=by
   cases vs with
   |nil=>rfl
   |cons v r=>
    obtain ⟨b,off,h,_⟩:=c3 (by simp)
    cases h
  subst this
  rfl
 |some a=>
  rw [Nat.mul_one] at c2
  rw [run_bytesToString w a vs.length cap (vs.map fun v=>((byteV v).toNat:Int))]
  ·have:=push_fold (vs.map byteV) ByteArray.empty
   rw [List.map_map] at this
   have e:(vs.map fun v=>((byteV v).toNat:Int))=vs.map ((fun b:UInt8=>(b.toNat:Int)) ∘ byteV):=rfl
   rw [e,this]
   congr 2
  ·rw [←hcs,←c2]
   refine run_loadCells_list w a cs fun j v hj=>?_
   have hne:vs≠[]:=fun e=>by
    subst e
    have:=(List.getElem?_eq_some_iff.1 hj).1
    rw [c2] at this;simp at this
   obtain ⟨b,off,h1,h2⟩:=c3 hne
   cases h1
   rw [addr_add];exact h2 j v hj
theorem does_convertV (hm:MRel P U I0 H w I ι) (g:Bool) (hid:g=false→ι id=none) (S D:Nat) {x:V} {cx:Value} (hx:Slot w I ι H x cx) (h:(convertV P H g id S D x).ok):
  Does P U I0 H w I ι id (convertV P H g id S D x) (do pure (.value (←convert S D cx))):=by
 unfold convertV at h ⊢
 split at h
 ·split at h
  ·rename_i k hk
   obtain ⟨d,hd⟩:=isT_und h
   have:=Slot.int_inv hx;subst this
   exact does_pure hm (cv:=.int k _) (by simp [convert,run_underlying hd,run_underlying (kindT_und hk),Conv.intToInt]) trivial slot_int
  ·exact h.elim
 ·rename_i i len
  split at h
  ·rename_i hSD
   have hSD:=Nat.eq_of_beq_eq_true hSD
   subst hSD
   split at h
   ·rename_i E E' rows hE hH
    obtain ⟨k1,k2,k3⟩:=h
    obtain ⟨c,img,hc,hi,hr⟩:=Rep.sl_inv hx
    have hcx:cx=c:=by simpa using hc
    subst hcx
    have hcx:=(hr _ _ _ hH).2 k2
    obtain ⟨h1,h2,h3⟩:=arr_of hm hi hH
    cases hb:img.b with
    |none=>rw [hb] at h3;have h3:img.cap=0:=h3;omega
    |some b=>
     rw [hb] at h3
     obtain ⟨front,spare,⟨ty,fr,q1,q2,q3⟩,q4,q5,q6⟩:=h3
     have hblt:b<w.heap.size:=(Array.getElem?_eq_some_iff.1 q1).1
     rw [hb] at hcx
     have hcx:cx=.slice (some ⟨b,0,none⟩) len img.cap:=hcx
     subst hcx
     generalize hn:(front++spare).length=n at*
     have hsh:w.shape? b=some (ty,n):=by
      unfold World.shape?
      rw [q1];simpa using hn
     have hrun:(convert S S (.slice (some ⟨b,0,none⟩) len img.cap)).run P w=.ok (.slice (some ⟨b,0,none⟩) len img.cap) (w.freeze ⟨b,n,none⟩ 1):=by
      simp [convert,run_underlying (elemT_und hE),run_underlying (kindT_und k1),markStringish,hsh]
     have hheap:(w.freeze ⟨b,n,none⟩ 1).heap=w.heap.modify b (fun o=>match o with
       | .cells c elem (lo,hi)=>.cells c elem (if lo==hi then (n,n+1) else (min lo n,max hi (n+1)))
       |o=>o):=by
      unfold World.freeze
      rw [if_neg (by decide)]
      rfl
     have henv:(w.freeze ⟨b,n,none⟩ 1).os=w.os∧(w.freeze ⟨b,n,none⟩ 1).tape=w.tape∧(w.freeze ⟨b,n,none⟩ 1).output=w.output:=by
      unfold World.freeze
      rw [if_neg (by decide)]
      exact ⟨rfl,rfl,rfl⟩
     have hother:∀k,k≠b→(w.freeze ⟨b,n,none⟩ 1).heap[k]? =w.heap[k]?:=fun k hk=>by
      rw [hheap,Array.getElem?_modify,if_neg (fun e=>hk e.symm)]
     have hsz:(w.freeze ⟨b,n,none⟩ 1).heap.size=w.heap.size:=by rw [hheap,Array.size_modify]
     have hnew:∃fr',(w.freeze ⟨b,n,none⟩ 1).heap[b]? =some (.cells (front++spare).toArray ty fr')∧NoFr n fr':=by
      obtain ⟨lo,hi'⟩:=fr
      refine ⟨if lo==hi' then (n,n+1) else (min lo n,max hi' (n+1)), ?_, ?_⟩
      ·rw [hheap,Array.getElem?_modify,if_pos rfl,q1];rfl
      ·obtain ⟨q2a,q2b⟩:=q2
       simp only at q2a q2b
       by_cases e:lo=hi'
       ·subst e
        simp only [beq_self_eq_true,if_true]
        exact ⟨Nat.le_succ n,fun o ho h=>by omega⟩
       ·have eb:(lo==hi')=false:=by simpa using e
        simp only [eb,Bool.false_eq_true,if_false]
        have hlo:n≤lo:=by
         rcases Nat.lt_or_ge lo n with hl|hl
         ·exact absurd ⟨Nat.le_refl lo,by omega⟩ (q2b lo hl)
         ·exact hl
        refine ⟨by simp only;omega,fun o ho h=>?_⟩
        simp only at h
        omega
     obtain ⟨fr',hb1,hb2⟩:=hnew
     have hg:HGo ι ι H (setO H i ⟨some E',false,.agg rows⟩):=by
      have e:setO H i ⟨some E',false,.agg rows⟩=H:=by
       funext x
       by_cases hx:x=i
       ·subst hx;rw [setO_same,hH]
       ·rw [zV _ _ hx]
      rw [e]
      exact HGo.refl
     obtain ⟨g1,g2⟩:=put_block (P:=P) (U:=U) (I0:=I0) hm (w':=w.freeze ⟨b,n,none⟩ 1) (blk':=⟨some E',false,.agg rows⟩) hH rfl hi hb hother hsz henv rfl hg (fun hk=>by
      obtain ⟨img',e1,e2,_⟩:=hm.heap i _ hH
      rw [hi] at e1
      cases e1
      refine ⟨img,hi,e2,.inl ⟨rows,rfl,h1,h2, ?_⟩⟩
      rw [hb]
      exact ⟨front,spare,⟨ty,fr',hb1,by rw [hn];exact hb2,q3⟩,q4.mono hk (fun _ h=>h),by rw [hn];exact q5,q6⟩)
     refine ⟨.value (.slice (some ⟨b,0,none⟩) len img.cap),_,w.freeze ⟨b,n,none⟩ 1,I,ι,by simp only [Sem.run_bind,hrun,Result.andThen_ok,Sem.run_pure],.inl rfl,trivial, ?_, ?_, ?_,fun _ _ h=>h⟩
     ·refine Rep.sl rfl hi fun E2 fz2 rws hr2=>?_
      simp only [zG,over_nil,setO_same] at hr2
      cases hr2
      exact ⟨Nat.le_of_eq k2,fun _=>by rw [hb];rfl⟩
     ·show MRel P U I0 (over H [(i,_)]) _ _ _
      rw [zG,over_nil];exact g1
     ·show MGo U I I ι _ H (over H [(i,_)]) _ _
      rw [zG,over_nil];exact g2
   ·exact h.elim
  ·split at h
   ·rename_i E hE
    obtain ⟨k1,k2,k3,k4,k6⟩:=h
    exact conv_bytes hm (x:=.sl i len) S D hx hE k1 k2 k3 k4 k6 (fun s e=>by cases e)
   ·exact h.elim
 ·rename_i s
  obtain ⟨e,hs⟩:=Slot.str_inv hx
  subst e
  split at h
  ·rename_i E hE
   have h':isT P S=true∧kindT P E=some .u8∧szO P E=some 1:=by cases g<;>exact h
   obtain ⟨k1,k2,k3⟩:=h'
   obtain ⟨d,hd⟩:=isT_und k1
   have hrun:=run_convert_string_bytes (P:=P) w S D E ⟨s.toArray⟩ hd (elemT_und hE) (kindT_und k2)
   rw [size_mk] at hrun
   have hp:(bytesWorld w E ⟨s.toArray⟩).heap=w.heap.push (.cells (bytesCells w E ⟨s.toArray⟩) E ((bytesCells w E ⟨s.toArray⟩).size,(bytesCells w E ⟨s.toArray⟩).size+1)):=by
    apply Array.ext_getElem?
    intro i
    rcases Nat.lt_trichotomy i w.heap.size with hi|hi|hi
    ·rw [bytesWorld_at_old _ _ _ _ hi,Array.getElem?_push,if_neg (by omega)]
    ·subst hi;rw [bytesWorld_at_new,Array.getElem?_push,if_pos rfl]
    ·rw [Array.getElem?_eq_none (by rw [bytesWorld_size];omega),Array.getElem?_eq_none (by simp;omega)]
   have hge:=grownCap_ge w s.length 0 E
   have hcm:grownCap w s.length 0 E≤lenMax:=grownCap_le_maxLen w _ _ E hs
   have hcells:(bytesCells w E ⟨s.toArray⟩).toList=(s.map fun b=>Value.int .u8 b.toNat)++List.replicate (grownCap w s.length 0 E-s.length) (.int .u8 0):=by
    simp [bytesCells,size_mk]
   have hblk:(bytesWorld w E ⟨s.toArray⟩).heap[w.heap.size]? =_:=heap_push_new hp
   have hsz:∀v∈(s.map fun b=>V.int .u8 b.toNat),v.sz=P.cellsOf E:=fun v hv=>by
    obtain ⟨b,_,rfl⟩:=List.mem_map.1 hv
    rw [cellsOf_sz k3];rfl
   have henv:(bytesWorld w E ⟨s.toArray⟩).os=w.os∧(bytesWorld w E ⟨s.toArray⟩).tape=w.tape∧(bytesWorld w E ⟨s.toArray⟩).output=w.output:=by
    refine ⟨?_, ?_, ?_⟩<;>(unfold bytesWorld World.freeze;split<;>rfl)
   cases g
   ·obtain ⟨g1,g2,g3⟩:=new_block (P:=P) (U:=U) (I0:=I0) hm (hid rfl) hp henv (blk:=⟨some E,false,.agg (s.map fun b=>.int .u8 b.toNat)⟩) (cap:=grownCap w s.length 0 E) (a:=true) rfl (fun hk hg=>by
     refine ⟨_,setO_same _ _ _,rfl,.inl ⟨_,rfl,by simpa using hge,hcm,s.map (fun b=>Value.int .u8 b.toNat),List.replicate (grownCap w s.length 0 E-s.length) (.int .u8 0),⟨E,_,by rw [hblk,←hcells], ?_, ?_⟩,imm_bytes_of s, ?_,hsz⟩⟩
     ·refine ⟨Nat.le_succ _,fun o ho hh=>?_⟩
      rw [←hcells,Array.length_toList] at ho
      simp only at hh
      omega
     ·intro u hu
      rcases List.mem_append.1 hu with hu|hu
      ·obtain ⟨_,_,rfl⟩:=List.mem_map.1 hu;rfl
      ·rw [List.eq_of_mem_replicate hu];rfl
     ·simp only [List.length_append,List.length_map,List.length_replicate,cellsOf_sz k3];omega)
    refine ⟨_,_,_,I,_,by simp only [Sem.run_bind,hrun,Result.andThen_ok,Sem.run_pure];rfl,.inl rfl,trivial, ?_, ?_, ?_,g3⟩
    ·refine Rep.sl rfl (setO_same _ _ _) fun E' fz rws hr=>?_
     simp only [Bool.false_eq_true,if_false,zG,over_nil,setO_same] at hr
     cases hr
     simp
    ·show MRel P U I0 (over H [(id,_)]) _ _ _
     rw [zG,over_nil];exact g1
    ·show MGo U I I ι _ H (over H [(id,_)]) _ _
     rw [zG,over_nil];exact g2
   ·obtain ⟨b1,b2⟩:=new_imm (P:=P) (U:=U) (I0:=I0) hm hp henv
    refine ⟨_,_,_,_,ι,by simp only [Sem.run_bind,hrun,Result.andThen_ok,Sem.run_pure];rfl,.inl rfl,trivial, ?_,b1,b2,fun _ _ h=>h⟩
    have:=list_of_block (c:=false) (cap:=grownCap w s.length 0 E) (.inr rfl) (cells_new hblk hcells) (imm_bytes_of (w:=bytesWorld w E ⟨s.toArray⟩) (I:=fun b=>I b∨b=w.heap.size) s) hsz (by simpa using hge) hcm (fun h=>by cases h)
    simp only [List.length_map] at this
    exact Rep.imm this
  ·obtain ⟨k1,k2⟩:=h
   obtain ⟨d,hd⟩:=isT_und k1
   exact does_pure hm (cv:=.string ⟨s.toArray⟩) (by simp [convert,run_underlying hd,run_underlying (strT_und k2)]) trivial (slot_str hs)
 ·rename_i hni hsl hns
  split at h
  ·rename_i E hE
   obtain ⟨k1,k2,k3,k4,k5,k6⟩:=h
   exact conv_bytes hm S D hx hE k1 k2 k3 k4 k6 hns
  ·exact h.elim
theorem Imm.take_drop {vs:List V} {cs:List Value} {z:Nat} (h:Imm w I (.agg vs) cs) (hz:∀v∈vs,v.sz=z) (k:Nat) (hk:k≤vs.length):
  Imm w I (.agg (vs.take k)) (cs.take (k*z))∧Imm w I (.agg (vs.drop k)) (cs.drop (k*z)):=by
 obtain ⟨part,rfl,hp⟩:=h.agg_inv
 have h1:Imm w I (.agg (vs.take k)) ((List.range (vs.take k).length).flatMap part):=.agg fun i v hv=>by
  rw [List.getElem?_take] at hv
  split at hv
  ·exact hp i v hv
  ·cases hv
 have h2:Imm w I (.agg (vs.drop k)) ((List.range (vs.drop k).length).flatMap fun i=>part (k+i)):=.agg fun i v hv=>by
  rw [List.getElem?_drop] at hv
  exact hp _ v hv
 have hl:(vs.take k).length=k:=by simp;omega
 have hl2:vs.length=k+(vs.drop k).length:=by simp;omega
 have e:(List.range vs.length).flatMap part=(List.range (vs.take k).length).flatMap part++(List.range (vs.drop k).length).flatMap fun i=>part (k+i):=by
  rw [hl]
  conv=>lhs;rw [hl2,List.range_add,List.flatMap_append,List.flatMap_map]
 have hsz:((List.range (vs.take k).length).flatMap part).length=k*z:=by
  rw [h1.size,V.sz,szs_const (z:=z) (fun v hv=>hz v (List.mem_of_mem_take hv)),hl]
 rw [e,←hsz,List.take_left,List.drop_left]
 exact ⟨h1,h2⟩
theorem does_copyView (hm:MRel P U I0 H w I ι) (T T2 T':Nat) {n:Nat} {l:List V} {y:V} {cx cy:Value} (hx:Slot w I ι H (.own n l) cx) (hy:Slot w I ι H y cy) (h:(copyView P H T y n l).ok):
  Does P U I0 H w I ι id (copyView P H T y n l) (do pure (.value (←Builtin.copy_ #[T,T2] T' #[cx,cy]))):=by
 unfold copyView at h ⊢
 split at h
 ·rename_i i len off a
  split at h
  ·rename_i m l2
   split at h
   ·rename_i j len2 off2 b0
    split at h
    ·rename_i E E' rows hT hH
     obtain ⟨rfl,k0,rfl,rfl,hne,rfl,rfl,ka,kb,k1⟩:=h
     obtain ⟨c,img,hc,hi,hr⟩:=Rep.view_inv hx
     have hcx:cx=c:=by simpa using hc
     subst hcx
     obtain ⟨b,c2,hb,rfl⟩:=(hr E false rows hH).2 k0
     obtain ⟨c',img',hc',hi',hr'⟩:=Rep.view_inv hy
     have hcy:cy=c':=by simpa using hc'
     subst hcy
     obtain ⟨b',c2',hb',rfl⟩:=(hr' E false rows hH).2 k0
     rw [hi] at hi';cases hi'
     rw [hb] at hb';cases hb'
     obtain ⟨h1,h2,h3⟩:=arr_of hm hi hH
     rw [hb] at h3
     obtain ⟨front,spare,f1,f2,f3,f4⟩:=h3
     have hfl:front.length=rows.length*P.cellsOf E:=by rw [f2.size,V.sz];exact szs_const f4
     have hu:=elemT_und hT
     generalize hk:min m n=k
     have hkm:k≤m:=by omega
     have hkn:k≤n:=by omega
     generalize hz:P.cellsOf E=z at*
     have mono:∀{p q:Nat},p≤q→p*z≤q*z:=fun h=>Nat.mul_le_mul_right _ h
     have hbk:b0*z+k*z≤front.length:=by rw [hfl,←Nat.add_mul];exact mono (by omega)
     have hak:a*z+k*z≤front.length:=by rw [hfl,←Nat.add_mul];exact mono (by omega)
     have hcl:((front.drop (b0*z)).take (k*z)).length=k*z:=by rw [List.length_take,List.length_drop];omega
     generalize hcs:(front.drop (b0*z)).take (k*z)=cs at hcl
     have hfirst:(Builtin.firstCells z k (.slice (some ⟨b,b0*z,none⟩) m c2')).run P w=.ok cs.toArray w:=by
      refine run_firstCells_some w _ _ _ _ _ _ hcl (fun j v h=>?_)
      rw [addr_add,blk_cell f1,←h,←hcs]
      have hj:j<k*z:=by
       have:=(List.getElem?_eq_some_iff.1 h).1
       omega
      rw [List.getElem?_take,if_pos hj,List.getElem?_drop,List.getElem?_append_left (by omega)]
     have hone:∀u∈cs,isCell u=true:=fun u hu=>by
      rw [←hcs] at hu
      exact f2.cells u (List.mem_of_mem_drop (List.mem_of_mem_take hu))
     have hle:a*z+cs.length≤(front++spare).length:=by rw [hcl];simp;omega
     have hput:=blk_put f1 hle hone
     have hst:=run_storeCells_blk (P:=P) f1 hle hone
     have hnew:(front++spare).take (a*z)++cs++(front++spare).drop (a*z+cs.length)=(front.take (a*z)++cs++front.drop (a*z+k*z))++spare:=by
      rw [hcl,List.drop_append,List.take_append,Nat.sub_eq_zero_of_le hak,Nat.sub_eq_zero_of_le (by omega:a*z≤front.length)]
      simp
     rw [hnew] at hput
     have hrl:(rows.take a++(rows.drop b0).take k++rows.drop (a+k)).length=rows.length:=by simp;omega
     have hrz:∀r∈rows.take a++(rows.drop b0).take k++rows.drop (a+k),r.sz=z:=fun r hr=>by
      rcases List.mem_append.1 hr with hr|hr
      ·rcases List.mem_append.1 hr with hr|hr
       ·exact f4 r (List.mem_of_mem_take hr)
       ·exact f4 r (List.mem_of_mem_drop (List.mem_of_mem_take hr))
      ·exact f4 r (List.mem_of_mem_drop hr)
     have himm:Imm w I (.agg (rows.take a++(rows.drop b0).take k++rows.drop (a+k))) (front.take (a*z)++cs++front.drop (a*z+k*z)):=by
      have d1:=(f2.take_drop f4 b0 (by omega)).2
      have d2:=(d1.take_drop (fun v hv=>f4 v (List.mem_of_mem_drop hv)) k (by simp;omega)).1
      rw [hcs] at d2
      rw [←Nat.add_mul]
      exact ((f2.take_drop f4 a (by omega)).1.append d2).append (f2.take_drop f4 (a+k) (by omega)).2
     have hg:HGo ι ι H (setO H j ⟨some E,false,.agg (rows.take a++(rows.drop b0).take k++rows.drop (a+k))⟩):=by
      intro q mm hq
      refine ⟨mm,hq,fun _=>rfl,fun E' fz rws hr=>?_⟩
      by_cases hqj:q=j
      ·subst hqj
       rw [setO_same] at hr;cases hr
       exact ⟨E,false,rows,hH,by omega,fun _=>rfl⟩
      ·rw [zV _ _ hqj] at hr;exact ⟨E',fz,rws,hr,Nat.le_refl _,fun _=>rfl⟩
     obtain ⟨g1,g2⟩:=put_block (P:=P) (U:=U) (I0:=I0) hm hH rfl hi hb (w':=w.setCells b (a*z) cs) (blk':=⟨some E,false,.agg (rows.take a++(rows.drop b0).take k++rows.drop (a+k))⟩)
      (fun k hk=>setCells_heap_ne b _ _ w k hk) (setCells_size b _ _ w) (setCells_env b _ _ w) rfl hg
      (fun hk=>by
       obtain ⟨img2,u1,u2,_⟩:=hm.heap _ _ hH
       rw [hi] at u1;cases u1
       refine ⟨img,hi,u2,.inl ⟨_,rfl,by omega,h2, ?_⟩⟩
       rw [hb]
       refine ⟨_,spare,hput,himm.mono hk (fun _ h=>h), ?_,fun r hr=>by rw [hz];exact hrz r hr⟩
       rw [hz,←f3]
       simp only [List.length_append,List.length_drop,List.length_take,hcl]
       omega)
     refine ⟨.value (.int .i64 (k:Nat)),_,w.setCells b (a*z) cs,I,ι, ?_,.inl rfl,trivial,slot_int, ?_, ?_,fun _ _ h=>h⟩
     ·have hk2:min n m=k:=by omega
      simp [Builtin.copy_,run_underlying hu,Builtin.lenOf,run_sz k1,hz,hk,hk2,hfirst,hst,goInt]
     ·show MRel P U I0 (over H [(j,_)]) _ _ _
      rw [zG,over_nil];exact g1
     ·show MGo U I I ι _ H (over H [(j,_)]) _ _
      rw [zG,over_nil];exact g2
    ·exact h.elim
   ·exact h.elim
  ·exact h.elim
 ·exact h.elim
theorem does_copyV (hm:MRel P U I0 H w I ι) (T T2 T':Nat) {x y:V} {cx cy:Value} (hx:Slot w I ι H x cx) (hy:Slot w I ι H y cy) (h:(copyV P H T y x).ok):
  Does P U I0 H w I ι id (copyV P H T y x) (do pure (.value (←Builtin.copy_ #[T,T2] T' #[cx,cy]))):=by
 unfold copyV at h ⊢
 split at h
 ·rename_i i len
  split at h
  ·rename_i E E' rows hT hH
   obtain ⟨k0,rfl,k1,k2,k3,k4,k5⟩:=h
   obtain ⟨c,img,hc,hi,hr⟩:=Rep.sl_inv hx
   have hcx:cx=c:=by simpa using hc
   subst hcx
   have hcx:=(hr E false rows hH).2 k0
   subst hcx
   subst k0
   obtain ⟨a,cap,rfl,hseq,_⟩:=seq_rep hm hy k2 k5
   obtain ⟨cs,c1,c2,c3⟩:=seq_cells hseq k3
   generalize (seqOf H y).vs=ys at*
   have harr:=arr_of hm hi hH
   obtain ⟨h1,h2,h3⟩:=harr
   have hu:=elemT_und hT
   have hfirst:(Builtin.firstCells (P.cellsOf E) (min ys.length rows.length) (.slice a ys.length cap)).run P w=.ok (cs.take (min ys.length rows.length*P.cellsOf E)).toArray w:=by
    by_cases hne:ys=[]
    ·subst hne
     have:cs=[]:=List.length_eq_zero_iff.1 (by simpa using c2)
     subst this
     cases a with
     |none=>simp [Builtin.firstCells]
     |some a=>simpa using run_firstCells_some (P:=P) w (P.cellsOf E) 0 a ([]:List V).length cap [] (by simp) (fun j v h=>by simp at h)
    ·obtain ⟨b,off,rfl,hc⟩:=c3 hne
     refine run_firstCells_some w _ _ _ _ _ _ ?_ (fun j v h=>?_)
     ·rw [List.length_take,c2];exact Nat.min_eq_left (Nat.mul_le_mul_right _ (by omega))
     ·rw [addr_add]
      rw [List.getElem?_take] at h
      split at h
      ·exact hc j v h
      ·cases h
   have hone:∀u∈cs.take (min ys.length rows.length*P.cellsOf E),isCell u=true:=fun u hu=>c1.cells u (List.mem_of_mem_take hu)
   cases hb:img.b with
   |none=>
    rw [hb] at h3
    have h3:img.cap=0:=h3
    have hr0:rows=[]:=List.length_eq_zero_iff.1 (by omega)
    subst hr0
    have hHH:over H [(i,⟨some E,false,.agg (ys.take ([]:List V).length++([]:List V).drop ys.length)⟩)]=H:=by
     rw [zG,over_nil]
     funext k
     by_cases hk:k=i
     ·subst hk;rw [setO_same,hH];simp
     ·rw [zV _ _ hk]
    refine ⟨.value (.int .i64 (min ys.length ([]:List V).length:Nat)),_,w,I,ι, ?_,.inl rfl,trivial, ?_, ?_, ?_,fun _ _ h=>h⟩
    ·simp only [List.length_nil,Nat.min_zero] at hfirst
     simp [Builtin.copy_,run_underlying hu,Builtin.lenOf,run_sz k1,hfirst,hb,goInt]
    ·exact slot_int
    ·show MRel P U I0 (over H [(i,_)]) _ _ _
     rw [hHH];exact hm
    ·show MGo U I I ι _ H (over H [(i,_)]) _ _
     rw [hHH];exact MGo.refl
   |some b=>
    rw [hb] at h3
    obtain ⟨front,spare,f1,f2,f3,f4⟩:=h3
    have hfl:front.length=rows.length*P.cellsOf E:=by rw [f2.size,V.sz];exact szs_const f4
    have hcl:(cs.take (min ys.length rows.length*P.cellsOf E)).length=min ys.length rows.length*P.cellsOf E:=by
     rw [List.length_take,c2];exact Nat.min_eq_left (Nat.mul_le_mul_right _ (by omega))
    have hmle:min ys.length rows.length*P.cellsOf E≤front.length:=by rw [hfl];exact Nat.mul_le_mul_right _ (by omega)
    have hle:0+(cs.take (min ys.length rows.length*P.cellsOf E)).length≤(front++spare).length:=by rw [hcl];simp;omega
    have hput:=blk_put f1 hle hone
    have hst:=run_storeCells_blk (P:=P) f1 hle hone
    have hnew:(front++spare).take 0++cs.take (min ys.length rows.length*P.cellsOf E)++(front++spare).drop (0+(cs.take (min ys.length rows.length*P.cellsOf E)).length)=
      (cs.take (min ys.length rows.length*P.cellsOf E)++front.drop (min ys.length rows.length*P.cellsOf E))++spare:=by
     rw [hcl,Nat.zero_add,List.drop_append,Nat.sub_eq_zero_of_le hmle]
     simp
    rw [hnew] at hput
    have hrl:(ys.take rows.length++rows.drop ys.length).length=rows.length:=by simp;omega
    have hrz:∀r∈ys.take rows.length++rows.drop ys.length,r.sz=P.cellsOf E:=fun r hr=>(List.mem_append.1 hr).elim (fun h=>k3 r (List.mem_of_mem_take h)) (fun h=>f4 r (List.mem_of_mem_drop h))
    have himm:Imm w I (.agg (ys.take rows.length++rows.drop ys.length)) (cs.take (min ys.length rows.length*P.cellsOf E)++front.drop (min ys.length rows.length*P.cellsOf E)):=by
     have e1:ys.take rows.length=ys.take (min ys.length rows.length):=by
      rcases Nat.le_total ys.length rows.length with h|h
      ·rw [Nat.min_eq_left h,List.take_of_length_le h,List.take_length]
      ·rw [Nat.min_eq_right h]
     have e2:rows.drop ys.length=rows.drop (min ys.length rows.length):=by
      rcases Nat.le_total ys.length rows.length with h|h
      ·rw [Nat.min_eq_left h]
      ·rw [Nat.min_eq_right h,List.drop_length,List.drop_of_length_le h]
     rw [e1,e2]
     exact (c1.take_drop k3 _ (by omega)).1.append (f2.take_drop f4 _ (by omega)).2
    have hg:HGo ι ι H (setO H i ⟨some E,false,.agg (ys.take rows.length++rows.drop ys.length)⟩):=by
     intro k m hk
     refine ⟨m,hk,fun _=>rfl,fun E' fz rws hr=>?_⟩
     by_cases hkj:k=i
     ·subst hkj
      rw [setO_same] at hr;cases hr
      exact ⟨E,false,rows,hH,by omega,fun _=>rfl⟩
     ·rw [zV _ _ hkj] at hr;exact ⟨E',fz,rws,hr,Nat.le_refl _,fun _=>rfl⟩
    obtain ⟨g1,g2⟩:=put_block (P:=P) (U:=U) (I0:=I0) hm hH rfl hi hb (w':=w.setCells b 0 (cs.take (min ys.length rows.length*P.cellsOf E))) (blk':=⟨some E,false,.agg (ys.take rows.length++rows.drop ys.length)⟩)
     (fun k hk=>setCells_heap_ne b _ _ w k hk) (setCells_size b _ _ w) (setCells_env b _ _ w) rfl hg
     (fun hk=>by
      obtain ⟨img2,u1,u2,_⟩:=hm.heap _ _ hH
      rw [hi] at u1;cases u1
      refine ⟨img,hi,u2,.inl ⟨_,rfl,by omega,h2, ?_⟩⟩
      rw [hb]
      refine ⟨_,spare,hput,himm.mono hk (fun _ h=>h), ?_,hrz⟩
      rw [←f3]
      simp only [List.length_append,List.length_drop,hcl]
      omega)
    refine ⟨.value (.int .i64 (min ys.length rows.length:Nat)),_,w.setCells b 0 (cs.take (min ys.length rows.length*P.cellsOf E)),I,ι, ?_,.inl rfl,trivial,slot_int, ?_, ?_,fun _ _ h=>h⟩
    ·simp [Builtin.copy_,run_underlying hu,Builtin.lenOf,run_sz k1,hfirst,hb,hst,goInt]
    ·show MRel P U I0 (over H [(i,_)]) _ _ _
     rw [zG,over_nil];exact g1
    ·show MGo U I I ι _ H (over H [(i,_)]) _ _
     rw [zG,over_nil];exact g2
  ·exact h.elim
 ·exact does_copyView hm T T2 T' hx hy h
 ·exact h.elim
end
open Go
def Tree (es:List V) (ks:Nat→Int) (vs:Nat→V):Prop:=∀(i:Nat) (v:V),es[i]? =some v→v=.agg [.int .i64 (ks i),vs i]
theorem Tree.tail {x:V} {es:List V} {ks:Nat→Int} {vs:Nat→V} (h:Tree (x::es) ks vs):x=.agg [.int .i64 (ks 0),vs 0]∧Tree es (fun i=>ks (i+1)) (fun i=>vs (i+1)):=
 ⟨h 0 x rfl,fun i v hv=>h (i+1) v (by simpa using hv)⟩
theorem tree_none {k:Int} {v:V}:∀{es:List V} {ks:Nat→Int} {vs:Nat→V},Tree es ks vs→(∀i,i<es.length→ks i≠k)→mget es k=none∧mput es k v=es++[.agg [.int .i64 k,v]]∧mdel es k=es
 |[],ks,vs,h,hk=>⟨rfl,rfl,rfl⟩
 |x::es,ks,vs,h,hk=>by
  obtain ⟨rfl,ht⟩:=h.tail
  have h0:(ks 0==k)=false:=by simpa using hk 0 (by simp)
  obtain ⟨a,b,c⟩:=tree_none (k:=k) (v:=v) ht (fun i hi=>hk (i+1) (by simpa using hi))
  simp only [mget,mput,mdel,h0,a,b,c,List.cons_append,and_self]
theorem tree_some {k:Int} {v:V}:∀{es:List V} {ks:Nat→Int} {vs:Nat→V} {j:Nat},Tree es ks vs→j<es.length→ks j=k→(∀i,i<j→ks i≠k)→mget es k=some (vs j)∧mput es k v=es.set j (.agg [.int .i64 k,v])∧mdel es k=es.eraseIdx j
 |[],ks,vs,j,h,hj,_,_=>by simp at hj
 |x::es,ks,vs,j,h,hj,hk,hn=>by
  obtain ⟨rfl,ht⟩:=h.tail
  cases j with
  |zero=>
   have h0:(ks 0==k)=true:=by simpa using hk
   simp only [mget,mput,mdel,h0,List.set_cons_zero,List.eraseIdx_cons_zero,and_self]
  |succ j=>
   have h0:(ks 0==k)=false:=by simpa using hn 0 (by omega)
   obtain ⟨a,b,c⟩:=tree_some (k:=k) (v:=v) ht (by simpa using hj) hk (fun i hi=>hn (i+1) (by omega))
   simp only [mget,mput,mdel,h0,a,b,c,List.set_cons_succ,List.eraseIdx_cons_succ,and_self]
section
variable {P:Program} {U I0:Nat→Prop} {H:Nat→Option Blk} {w:World} {I:Nat→Prop} {ι:Nat→Option Img} {id:Nat}
theorem key_is (k:Int):MapKept.IsKey (.int .i64) (.int .i64 k):=rfl
theorem map_find {ens:Array MapEntry} {clock:Nat} {es:List V} {ks:Nat→Int} {vs:Nat→V} {part:Nat→List Value} (h2:MapKept.Stamped ens clock) (h3:es.length=ens.size)
  (h4:Tree es ks vs) (h5:∀i en,ens[i]? =some en→Ent en (ks i) (isAg (vs i)) (part i)) (k:Int) (v:V):
  (Instr.findNow (.int .i64) (.int .i64 k) ens.toList 0=some none∧(∀x∈ens.toList,x.key≠.int .i64 k)∧mget es k=none∧mput es k v=es++[.agg [.int .i64 k,v]]∧mdel es k=es)∨
  ∃j e,Instr.findNow (.int .i64) (.int .i64 k) ens.toList 0=some (some (j,e.val))∧ens[j]? =some e∧e.key=.int .i64 k∧j<es.length∧mget es k=some (vs j)∧mput es k v=es.set j (.agg [.int .i64 k,v])∧mdel es k=es.eraseIdx j:=by
 have hks:∀x∈ens.toList,MapKept.IsKey (.int .i64) x.key:=by
  intro x hx
  obtain ⟨i,hi,e⟩:=List.mem_iff_getElem.1 hx
  have:=h5 i x (by rw [←Array.getElem?_toList,List.getElem?_eq_getElem hi,e])
  rw [this.key];rfl
 rcases MapKept.findNow_spec (key_is k) ens.toList 0 hks with ⟨a,b⟩|⟨j,e,a,b,c⟩
 ·refine .inl ⟨a,b,tree_none h4 (fun i hi e=>?_)⟩
  have hi':i<ens.size:=by omega
  have:=h5 i ens[i] (by simp [hi'])
  exact b ens[i] (by simp) (by rw [this.key,e])
 ·have hb:ens[j]? =some e:=by simpa using b
  have hj:j<ens.size:=(Array.getElem?_eq_some_iff.1 hb).1
  have hkj:ks j=k:=by
   have:=(h5 j e hb).key
   rw [c] at this;cases this;rfl
  refine .inr ⟨j,e,by simpa using a,hb,c,by omega,tree_some h4 (by omega) hkj (fun i hi e'=>?_)⟩
  have hi':i<ens.size:=by omega
  have q1:=(h5 i ens[i] (by simp [hi'])).key
  have hn:=List.pairwise_iff_getElem.1 ((MapKept.stamped_iff ens clock).1 h2).2.2 i j (by simpa using hi') (by simpa using hj) hi
  apply hn
  have r2:ens[j]=e:=(Array.getElem?_eq_some_iff.1 hb).2
  simp only [Array.getElem_toList,q1,r2,c,e']
theorem slot_ent {v:V} {e:MapEntry} {k:Int} {cs:List Value} (he:Ent e k (isAg v) cs) (hr:Imm w I v cs):Slot w I ι H v e.val:=
 slot_of_rep (.imm hr) (by cases v<;>exact he.val)
theorem run_lookupV (hm:MRel P U I0 H w I ι) (T:Nat) (ok:Bool) {x k:V} {cx ck:Value} (hx:Slot w I ι H x cx) (hk:Slot w I ι H k ck) (h:(lookupV P H T x k ok).ok):
  Gives P H w I ι (lookupV P H T x k ok) (Instr.lookup T cx ck ok):=by
 unfold lookupV at h ⊢
 split at h
 ·rename_i E hT
  split at h
  ·rename_i es he
   split at h
   ·rename_i k
    obtain ⟨K,hu,hku⟩:=mapT_und hT
    have e:=hk.int_inv;subst e
    have h:zeroOk P E (zeroT P E)=true:=h
    obtain ⟨z,i,z1,z2,z3,z4,z5⟩:=zeroOk_spec (w:=w) (I:=I) h
    have hz:=run_zero (w:=w) z1 z2
    have hzs:Slot w I ι H (zeroT P E) z:=slot_of_rep (.imm z3) (by
     generalize zeroT P E=t at z5 z3
     cases t<;>simp only [V.isAgg,if_true,if_false,Bool.false_eq_true] at z5 ⊢ <;>first
      |(obtain ⟨cs,rfl⟩:=z5;simp [Value.cells])
      |(cases z<;>simp_all [Value.cells,Value.oneCell']))
    have fin:∀(v:V) (cv:Value) (b:Bool),Slot1 w I ι H v cv→Slot w I ι H v cv→Slot w I ι H (okV ok v b) (if ok then .tuple #[cv,.bool b] else cv):=by
     intro v cv b hs1 hs
     cases ok
     ·exact hs
     ·refine ⟨fun i=>if i=0 then cv else .bool b,rfl,fun i u hu=>?_⟩
      match i,hu with
      |0,hu=>cases hu;exact hs1
      |1,hu=>cases hu;exact slot_bool
      |i+2,hu=>simp at hu
    have s1:∀(v:V) (cv:Value) (cs:List Value),Imm w I v cs→Slot w I ι H v cv→Slot1 w I ι H v cv:=by
     intro v cv cs hi hs
     cases v<;>first|exact hs|(cases hi)
    rcases map_of hm hx he with ⟨rfl,rfl⟩|⟨b,rfl,ens,clock,ks,vs,part,h1,h2,h3,h0,h4,h5,h6⟩
    ·refine ⟨rfl,_, ?_,trivial,fin (zeroT P E) z false (s1 _ _ _ z3 hzs) hzs⟩
     cases ok<;>simp [Instr.lookup,run_underlying hu,MapKept.run_checkKey hku (key_is k),MapKept.run_findKey hku (k:=.int .i64 k) (l:=[]) (a:=none) rfl,hz,Result.andThen]
    ·rcases map_find h2 h3 h4 h5 k .junk with ⟨a,b',c,d⟩|⟨j,e,a,b',c,hj,d,_⟩
     ·rw [c]
      refine ⟨rfl,_, ?_,trivial,fin (zeroT P E) z false (s1 _ _ _ z3 hzs) hzs⟩
      cases ok<;>simp [Instr.lookup,run_underlying hu,MapKept.run_getObj_map h1,MapKept.run_checkKey hku (key_is k),MapKept.run_findKey hku a,hz,Result.andThen]
     ·rw [d]
      have hs:=slot_ent (ι:=ι) (H:=H) (h5 j e b') (h6 j hj)
      refine ⟨rfl,_, ?_,trivial,fin (vs j) e.val true (s1 _ _ _ (h6 j hj) hs) hs⟩
      cases ok<;>simp [Instr.lookup,run_underlying hu,MapKept.run_getObj_map h1,MapKept.run_checkKey hku (key_is k),MapKept.run_findKey hku a,Result.andThen]
   ·exact h.elim
  ·exact h.elim
 ·exact h.elim
theorem does_makeMapV (hm:MRel P U I0 H w I ι) (hid:ι id=none) (T:Nat) (r:Option Operand) (cr:Option Value) (hr:r=none→cr=none) (h:(makeMapV id T r).ok):
  Does P U I0 H w I ι id (makeMapV id T r) (do pure (.value (←Instr.makeMap T cr))):=by
 cases r with
 |some _=>exact h.elim
 |none=>
  rw [hr rfl]
  let w':World:={ w with heap:=w.heap.push (.map #[] 0) }
  have hp:w'.heap=w.heap.push (.map #[] 0):=rfl
  obtain ⟨k1,k2,k3⟩:=new_block (P:=P) (U:=U) (I0:=I0) hm hid (w':=w') hp ⟨rfl,rfl,rfl⟩ (blk:=⟨some T,false,.own T []⟩) (cap:=0) (a:=false) rfl (fun hk hg=>
   ⟨_,setO_same _ _ _,rfl,.inr ⟨[],w.heap.size,rfl,rfl,#[],0,fun _=>0,fun _=>.junk,fun _=>[],heap_push_new hp,MapKept.stamped_empty 0,rfl,Nat.zero_le _,fun i v hv=>by simp at hv,fun i e he=>by simp at he,fun i hi=>by simp at hi⟩⟩)
  refine ⟨_,.map (some w.heap.size),w',I,_, ?_,.inl rfl,trivial,Rep.mp (setO_same _ _ _), ?_, ?_,k3⟩
  ·simp only [Sem.run_bind,Instr.makeMap,Result.andThen_ok,run_newObj,Sem.run_pure]
   rfl
  ·show MRel P U I0 (over H [(id,_)]) _ _ _
   rw [zG,over_nil];exact k1
  ·show MGo U I I ι _ H (over H [(id,_)]) _ _
   rw [zG,over_nil];exact k2
theorem put_map (hm:MRel P U I0 H w I ι) {i b cap T:Nat} {es es':List V} {ens':Array MapEntry} {clock':Nat} (hH:H i=some ⟨some T,false,.own T es⟩) (hi:ι i=some ⟨some b,cap,false⟩)
  (hb:b<w.heap.size) (ho:∃o,w.heap[b]? =some o) (hr:∀w':World,w'.heap[b]? =some (.map ens' clock')→keep I w w'→MapAt w' I b es'):
  MRel P U I0 (setO H i ⟨some T,false,.own T es'⟩) { w with heap:=w.heap.setIfInBounds b (.map ens' clock') } I ι∧MGo U I I ι ι H (setO H i ⟨some T,false,.own T es'⟩) w { w with heap:=w.heap.setIfInBounds b (.map ens' clock') }:=by
 obtain ⟨o,ho⟩:=ho
 obtain ⟨s1,s2⟩:=MapKept.heap_set (o':=.map ens' clock') ho
 have hg:HGo ι ι H (setO H i ⟨some T,false,.own T es'⟩):=by
  intro j img hj
  refine ⟨img,hj,fun _=>rfl,fun E fz rows hr=>?_⟩
  by_cases hji:j=i
  ·subst hji;rw [setO_same] at hr;cases hr
  ·rw [zV _ _ hji] at hr;exact ⟨E,fz,rows,hr,Nat.le_refl _,fun _=>rfl⟩
 exact put_block (P:=P) (U:=U) (I0:=I0) hm hH rfl hi rfl (w':={ w with heap:=w.heap.setIfInBounds b (.map ens' clock') }) (blk':=⟨some T,false,.own T es'⟩) (fun k hk=>s2 k hk) (by simp) ⟨rfl,rfl,rfl⟩ rfl hg
  (fun hk=>⟨_,hi,rfl,.inr ⟨es',b,rfl,rfl,hr _ s1 hk⟩⟩)
theorem does_delMap (hm:MRel P U I0 H w I ι) (T T2 T':Nat) {x k:V} {cx ck:Value} (hx:Slot w I ι H x cx) (hk:Slot w I ι H k ck) (h:(delMap P H T k x).ok):
  Does P U I0 H w I ι id (delMap P H T k x) (do pure (.value (←Builtin.delete_ #[T,T2] T' #[cx,ck]))):=by
 unfold delMap at h ⊢
 split at h
 ·split at h
  ·rename_i i off p
   split at h
   ·split at h
    ·rename_i E hT
     split at h
     ·rename_i T3 fz T4 es hH
      split at h
      ·split at h
       ·rename_i k
        obtain ⟨K,hu,hku⟩:=mapT_und hT
        have e:=hk.int_inv;subst e
        have hr:Rep w I ι H (.own _ [.ptr i 0 [],.nilp]) [cx]:=hx
        cases hr with
        |imm h=>cases h
        |mp hi=>
         rename_i b cap
         obtain ⟨img,g1,g2,g3⟩:=hm.heap i _ hH
         rw [hi] at g1;cases g1
         rcases g3 with ⟨rows,e,_⟩|⟨es2,b2,e1,e2,ens,clock,ks,vs,part,h1,h2,h3,h0,h4,h5,h6⟩
         ·cases e
         ·cases e1;cases e2
          have hlt:b<w.heap.size:=(Array.getElem?_eq_some_iff.1 h1).1
          rcases map_find h2 h3 h4 h5 k .junk with ⟨a,b',c,_,d⟩|⟨j,e,a,b',c,hj,_,_,d⟩
          ·rw [d]
           obtain ⟨p1,p2⟩:=put_map (ens':=ens) (clock':=clock) hm hH hi hlt ⟨_,h1⟩ (fun w' hw hkp=>⟨ens,clock,ks,vs,part,hw,h2,h3,h0,h4,h5,fun q hq=>(h6 q hq).mono hkp (fun _ h=>h)⟩)
           refine ⟨_,.tuple #[],{ w with heap:=w.heap.setIfInBounds b (.map ens clock) },I,ι, ?_,.inl rfl,trivial,trivial, ?_, ?_,fun _ _ h=>h⟩
           ·simp [Builtin.delete_,run_underlying hu,MapKept.run_getObj_map h1,MapKept.run_checkKey hku (key_is k),MapKept.run_findKey hku a,MapKept.run_setObj_map _ h1,Result.andThen]
           ·show MRel P U I0 (over H [(i,_)]) _ _ _
            rw [zG,over_nil];exact p1
           ·show MGo U I I ι _ H (over H [(i,_)]) _ _
            rw [zG,over_nil];exact p2
          ·rw [d]
           have hjs:j<ens.size:=by omega
           have hget:∀q,(ens.eraseIdxIfInBounds j)[q]? =if q<j then ens[q]? else ens[q+1]?:=by
            intro q
            rw [←Array.getElem?_toList]
            unfold Array.eraseIdxIfInBounds
            rw [dif_pos hjs,Array.toList_eraseIdx,List.getElem?_eraseIdx]
            simp only [Array.getElem?_toList]
           have hgetV:∀q,(es.eraseIdx j)[q]? =if q<j then es[q]? else es[q+1]?:=fun q=>List.getElem?_eraseIdx
           have hsz:(ens.eraseIdxIfInBounds j).size=ens.size-1:=by
            unfold Array.eraseIdxIfInBounds
            rw [dif_pos hjs,Array.size_eraseIdx]
           have hln:(es.eraseIdx j).length=es.length-1:=by rw [List.length_eraseIdx,if_pos hj]
           obtain ⟨p1,p2⟩:=put_map (ens':=ens.eraseIdxIfInBounds j) (clock':=clock) (es':=es.eraseIdx j) hm hH hi hlt ⟨_,h1⟩ (fun w' hw hkp=>
            ⟨_,clock,fun q=>if q<j then ks q else ks (q+1),fun q=>if q<j then vs q else vs (q+1),fun q=>if q<j then part q else part (q+1),hw,MapKept.stamped_erase h2 j,by omega,by omega,fun q v hv=>by
             rw [hgetV] at hv
             by_cases hq:q<j
             ·simp only [hq,if_true] at hv ⊢;exact h4 q v hv
             ·simp only [hq,if_false] at hv ⊢;exact h4 (q+1) v hv,fun q en he=>by
             rw [hget] at he
             by_cases hq:q<j
             ·simp only [hq,if_true] at he ⊢;exact h5 q en he
             ·simp only [hq,if_false] at he ⊢;exact h5 (q+1) en he,fun q hq'=>by
             by_cases hq:q<j
             ·simp only [hq,if_true];exact (h6 q (by omega)).mono hkp (fun _ h=>h)
             ·simp only [hq,if_false];exact (h6 (q+1) (by omega)).mono hkp (fun _ h=>h)⟩)
           refine ⟨_,.tuple #[],{ w with heap:=w.heap.setIfInBounds b (.map (ens.eraseIdxIfInBounds j) clock) },I,ι, ?_,.inl rfl,trivial,trivial, ?_, ?_,fun _ _ h=>h⟩
           ·simp [Builtin.delete_,run_underlying hu,MapKept.run_getObj_map h1,MapKept.run_checkKey hku (key_is k),MapKept.run_findKey hku a,MapKept.run_setObj_map _ h1,Result.andThen]
           ·show MRel P U I0 (over H [(i,_)]) _ _ _
            rw [zG,over_nil];exact p1
           ·show MGo U I I ι _ H (over H [(i,_)]) _ _
            rw [zG,over_nil];exact p2
       ·exact h.elim
      ·exact h.elim
     ·exact h.elim
    ·exact h.elim
   ·exact h.elim
  ·exact h.elim
 ·exact h.elim
theorem ent_val {x:V} {cx:Value} (hx:Slot w I ι H x cx) (hb:x.boxy=true) (hok:(pureV H x).ok):if isAg (pureV H x).v=true then cx=.agg cx.cells.toList.toArray else cx.cells.toList=[cx]:=by
 have key:x.isAgg=false→cx.cells.toList=[cx]:=by
  intro ha
  cases x<;>simp only [V.boxy,Bool.false_eq_true] at hb<;>first
   |(cases ha;done)
   |(have hr:Rep w I ι H _ [cx]:=hx
     have hc:=hr.cells cx (by simp)
     cases cx<;>simp_all [Value.cells,Value.oneCell'])
 cases x with
 |agg vs=>
  obtain ⟨cs,rfl,hr⟩:=hx
  simp [pureV,isAg,Value.cells]
 |own e l=>
  have h1:=key rfl
  have:isAg (pureV H (.own e l)).v=false:=by
   simp only [pureV] at hok ⊢
   split<;>first|rfl|(split<;>first|rfl|(split<;>rfl))
  rw [if_neg (by rw [this];decide)];exact h1
 |sl i len=>
  have h1:=key rfl
  have:isAg (pureV H (.sl i len)).v=false:=by
   simp only [pureV]
   split<;>rfl
  rw [if_neg (by rw [this];decide)];exact h1
 |ptr i off p=>
  have h1:=key rfl
  have:isAg (pureV H (.ptr i off p)).v=false:=by
   simp only [pureV]
   split
   ·split<;>rfl
   ·rfl
  rw [if_neg (by rw [this];decide)];exact h1
 |_=>
  first
   |(simp [V.boxy] at hb;done)
   |(simp [pureV] at hok;done)
   |(simp only [pureV,isAg];exact key rfl)
theorem frz_notin {i:Nat}:∀l:List Nat,i∉l→over H (frz H l) i=H i:=by
 intro l
 induction l with
 |nil=>intro _;rfl
 |cons j r ih=>
  intro hn
  simp only [frz]
  cases hj:H j with
  |none=>exact ih (fun h=>hn (List.mem_cons_of_mem _ h))
  |some b=>
   simp only
   cases b.fz with
   |true=>exact ih (fun h=>hn (List.mem_cons_of_mem _ h))
   |false=>
    simp only
    rw [zG,zV _ _ (fun e=>hn (by rw [e];exact List.mem_cons_self))]
    exact ih (fun h=>hn (List.mem_cons_of_mem _ h))
theorem does_updMap (hm:MRel P U I0 H w I ι) (T:Nat) {m k x:V} {cm ck cx:Value} (hmm:Slot w I ι H m cm) (hk:Slot w I ι H k ck) (hx:Slot w I ι H x cx) (h:(updMap P H T k x m).ok):
  Does P U I0 H w I ι id (updMap P H T k x m) (do Instr.mapUpdate T cm ck cx;pure .skip):=by
 unfold updMap at h ⊢
 split at h
 ·split at h
  ·rename_i i off p
   split at h
   ·split at h
    ·rename_i E hT
     split at h
     ·rename_i T3 fz T4 es hH
      split at h
      ·split at h
       ·rename_i k
        obtain ⟨l3,hxb,hlen,hlo,hhi,hni⟩:=h
        obtain ⟨K,hu,hku⟩:=mapT_und hT
        have e:=hk.int_inv;subst e
        have hr:Rep w I ι H (.own _ [.ptr i 0 [],.nilp]) [cm]:=hmm
        cases hr with
        |imm h=>cases h
        |mp hi=>
         rename_i b cap
         obtain ⟨r1,r2⟩:=slot_cells hx hxb
         have hev:=ent_val hx hxb l3
         obtain ⟨I',a0,a1,a2,a3⟩:=freeze_all hm (pureV H x).fz
         have hpx:Imm w I' (pureV H x).v cx.cells.toList:=pure_rep hm a3.sub a1 x (fun j hj=>hj) r1 l3
         have hH1:over H (frz H (pureV H x).fz) i=some ⟨some T3,false,.own T4 es⟩:=by rw [frz_notin _ hni,hH]
         obtain ⟨img,g1,g2,g3⟩:=a2.heap i _ hH1
         rw [hi] at g1;cases g1
         rcases g3 with ⟨rows,e,_⟩|⟨es2,b2,e1,e2,ens,clock,ks,vs,part,h1,h2,h3,h0,h4,h5,h6⟩
         ·cases e
         ·cases e1;cases e2
          have hlt:b<w.heap.size:=(Array.getElem?_eq_some_iff.1 h1).1
          generalize (pureV H x).v=y at hpx hev ⊢
          rcases map_find h2 h3 h4 h5 k y with ⟨a,b',c,d,_⟩|⟨j,e,a,b',c,hj,_,d,_⟩
          ·rw [d]
           have hget:∀q,(ens.push ⟨.int .i64 k,cx,clock⟩)[q]? =if q=ens.size then some ⟨.int .i64 k,cx,clock⟩ else ens[q]?:=fun q=>Array.getElem?_push
           obtain ⟨p1,p2⟩:=put_map (ens':=ens.push ⟨.int .i64 k,cx,clock⟩) (clock':=clock+1) (es':=es++[.agg [.int .i64 k,y]]) a2 hH1 hi hlt ⟨_,h1⟩ (fun w' hw hkp=>
            ⟨_,_,fun q=>if q=ens.size then k else ks q,fun q=>if q=ens.size then y else vs q,fun q=>if q=ens.size then cx.cells.toList else part q,hw,MapKept.stamped_push h2 b',by simp;omega,by simp;omega,fun q v hv=>by
             by_cases hq:q=ens.size
             ·simp only [hq,if_true]
              rw [List.getElem?_append_right (by omega),hq,h3] at hv
              simpa using hv.symm
             ·simp only [hq,if_false]
              by_cases hq2:q<es.length
              ·rw [List.getElem?_append_left hq2] at hv;exact h4 q v hv
              ·have:=(List.getElem?_eq_some_iff.1 hv).1
               simp at this;omega,fun q en he=>by
             rw [hget] at he
             by_cases hq:q=ens.size
             ·simp only [hq,if_true] at he ⊢
              cases he
              exact ⟨rfl,hlo,hhi,hev⟩
             ·simp only [hq,if_false] at he ⊢;exact h5 q en he,fun q hq'=>by
             by_cases hq:q=ens.size
             ·simp only [hq,if_true];exact hpx.mono hkp (fun _ h=>h)
             ·simp only [hq,if_false]
              simp at hq'
              exact (h6 q (by omega)).mono hkp (fun _ h=>h)⟩)
           refine ⟨.skip,undef,{ w with heap:=w.heap.setIfInBounds b (.map (ens.push ⟨.int .i64 k,cx,clock⟩) (clock+1)) },I',ι, ?_,.inr ⟨rfl,rfl⟩,trivial,trivial, ?_, ?_,fun _ _ h=>h⟩
           ·simp [Instr.mapUpdate,run_underlying hu,MapKept.run_getObj_map h1,MapKept.run_checkKey hku (key_is k),MapKept.run_findKey hku a,MapKept.run_setObj_map _ h1,Result.andThen]
           ·show MRel P U I0 (over H ((i,_)::frz H _)) _ _ _
            rw [zG];exact p1
           ·show MGo U I I' ι _ H (over H ((i,_)::frz H _)) _ _
            rw [zG];exact a3.trans p2
          ·rw [d]
           have hjs:j<ens.size:=by omega
           have hejs:ens[j]=e:=(Array.getElem?_eq_some_iff.1 b').2
           have hget:∀q,(ens.modify j fun e=>{ e with key:=.int .i64 k,val:=cx })[q]? =if j=q then (ens[q]?).map (fun e=>{ e with key:=.int .i64 k,val:=cx }) else ens[q]?:=fun q=>Array.getElem?_modify
           obtain ⟨p1,p2⟩:=put_map (ens':=ens.modify j fun e=>{ e with key:=.int .i64 k,val:=cx }) (clock':=clock) (es':=es.set j (.agg [.int .i64 k,y])) a2 hH1 hi hlt ⟨_,h1⟩ (fun w' hw hkp=>
            ⟨_,_,fun q=>if j=q then k else ks q,fun q=>if j=q then y else vs q,fun q=>if j=q then cx.cells.toList else part q,hw,MapKept.stamped_modify h2 _ _ (fun _ _=>rfl) (fun e' _ he'=>by rw [b'] at he';cases he';exact c.symm),by simp;omega,by simp;omega,fun q v hv=>by
             rw [List.getElem?_set] at hv
             by_cases hq:j=q
             ·subst hq
              simp only [if_true,hj] at hv ⊢
              exact (Option.some.inj hv).symm
             ·simp only [hq,if_false] at hv ⊢;exact h4 q v hv,fun q en he=>by
             rw [hget] at he
             by_cases hq:j=q
             ·subst hq
              simp only [if_true,b',Option.map_some,Option.some.injEq] at he ⊢
              subst he
              exact ⟨rfl,hlo,hhi,hev⟩
             ·simp only [hq,if_false] at he ⊢;exact h5 q en he,fun q hq'=>by
             by_cases hq:j=q
             ·simp only [hq,if_true];exact hpx.mono hkp (fun _ h=>h)
             ·simp only [hq,if_false]
              simp at hq'
              exact (h6 q hq').mono hkp (fun _ h=>h)⟩)
           refine ⟨.skip,undef,{ w with heap:=w.heap.setIfInBounds b (.map (ens.modify j fun e=>{ e with key:=.int .i64 k,val:=cx }) clock) },I',ι, ?_,.inr ⟨rfl,rfl⟩,trivial,trivial, ?_, ?_,fun _ _ h=>h⟩
           ·simp [Instr.mapUpdate,run_underlying hu,MapKept.run_getObj_map h1,MapKept.run_checkKey hku (key_is k),MapKept.run_findKey hku a,b',c,MapKept.run_keyThatStays (key_is k),MapKept.run_setObj_map _ h1,Result.andThen]
           ·show MRel P U I0 (over H ((i,_)::frz H _)) _ _ _
            rw [zG];exact p1
           ·show MGo U I I' ι _ H (over H ((i,_)::frz H _)) _ _
            rw [zG];exact a3.trans p2
       ·exact h.elim
      ·exact h.elim
     ·exact h.elim
    ·exact h.elim
   ·exact h.elim
  ·exact h.elim
 ·exact h.elim
end
open Go
section
variable {P:Program} {U I0:Nat→Prop} {H:Nat→Option Blk} {w:World} {I:Nat→Prop} {ι:Nat→Option Img} {id:Nat}
theorem optS_of {x:Option Operand} {ρV:Operand→V} {ρ:Operand→Value} (h:∀y,x=some y→Slot w I ι H (ρV y) (ρ y)):OptS w I ι H (x.map ρV) (x.map ρ):=by
 cases x with
 |none=>trivial
 |some y=>exact h y rfl
theorem parts_slots {ps:Array (Nat×Operand)} {ρV:Operand→V} {ρ:Operand→Value} (h:∀p∈ps.toList,Slot w I ι H (ρV p.2) (ρ p.2)):
  ∃cvs:List Value,(ps.toList.map fun p=>(p.1,ρV p.2)).length=cvs.length∧(ps.map fun (i,x)=>(i,ρ x)).toList=((ps.toList.map fun p=>(p.1,ρV p.2)).map (·.1)).zip cvs∧
   ∀(j:Nat) (k:Nat) (x:V) (cv:Value),(ps.toList.map fun p=>(p.1,ρV p.2))[j]? =some (k,x)→cvs[j]? =some cv→Slot w I ι H x cv:=by
 refine ⟨ps.toList.map fun p=>ρ p.2,by simp, ?_,fun j k x cv h1 h2=>?_⟩
 ·rw [Array.toList_map]
  generalize ps.toList=l
  clear h
  induction l with
  |nil=>rfl
  |cons p r ih=>simp only [List.map_cons,List.zip_cons_cons,ih]
 ·rw [List.getElem?_map] at h1 h2
  obtain ⟨p,hp,e⟩:=Option.map_eq_some_iff.1 h1
  rw [hp] at h2
  cases e
  cases h2
  exact h p (List.mem_of_getElem? hp)
theorem fn_caps {l:List Operand} {ρV:Operand→V} {ρ:Operand→Value} {f:Nat} (h:∀x∈l,Slot w I ι H (ρV x) (ρ x)) (hb:∀v∈l.map ρV,v.boxy=true∧v.isAgg=false):
  Rep w I ι H (.fn f (l.map ρV)) [.func (.func f) #[] (l.map ρ).toArray]:=by
 have:Rep w I ι H (.fn f (l.map ρV)) [.func (.func f) #[] ((List.range (l.map ρV).length).map fun i=>(l.map ρ).getD i undef).toArray]:=by
  refine .fn fun i v hv=>?_
  rw [List.getElem?_map] at hv
  obtain ⟨x,hx,rfl⟩:=Option.map_eq_some_iff.1 hv
  have hs:=h x (List.mem_of_getElem? hx)
  have hb:=hb (ρV x) (List.mem_map.2 ⟨x,List.mem_of_getElem? hx,rfl⟩)
  have e:(l.map ρ).getD i undef=ρ x:=by simp [List.getD,hx]
  rw [e]
  generalize ρV x=v at*
  cases v<;>first|exact hs|(simp [V.boxy,V.isAgg] at hb;done)
 have e:((List.range (l.map ρV).length).map fun i=>(l.map ρ).getD i undef)=l.map ρ:=by
  apply List.ext_getElem
  ·simp
  ·intro i h1 h2;simp at h1;simp [List.getD,h1]
 rwa [e] at this
theorem does_no {s:Sem Next} (h:(Out.no).ok):Does P U I0 H w I ι id Out.no s:=h.elim
theorem appendV_hw {T T2:Nat} {x y:V} (h:(appendV P H id T T2 y x).ok):(appendV P H id T T2 y x).hw≠[]:=by
 unfold appendV at h ⊢
 split at h
 ·split at h
  ·simp
  ·exact h.elim
 ·split at h
  ·simp
  ·exact h.elim
 ·split at h
  ·simp
  ·exact h.elim
 ·exact h.elim
theorem appendFV_hw {T T2:Nat} {x y:V} (h:(appendFV P H T T2 y x).ok):(appendFV P H T T2 y x).hw≠[]:=by
 unfold appendFV at h ⊢
 split at h
 ·split at h
  ·simp
  ·exact h.elim
 ·exact h.elim
theorem outOp_sound (hm:MRel P U I0 H w I ι) (g:Bool) (hid:g=false→ι id=none) {ρV:Operand→V} (o:Oper) (a:Act)
  (hρ:∀x∈o.op.operands,Slot w I ι H (ρV x) (a.eval x)) (hg:g=true→(outOp P H g id ρV o.op).hw=[]) (hok:(outOp P H g id ρV o.op).ok):
  Does P U I0 H w I ι id (outOp P H g id ρV o.op) (execOp a.eval o):=by
 obtain ⟨dst,op,type,pos,after,guard⟩:=o
 have nog:∀{b:Blk} {l:List (Nat×Blk)} {i:Nat},(outOp P H g id ρV op).hw=(i,b)::l→g=false:=by
  intro b l i e
  cases g
  ·rfl
  ·have:=hg rfl
   simp only at this
   rw [e] at this;cases this
 cases op<;>simp only [outOp] at hok hg ⊢ <;>simp only [execOp]<;>simp only [Op.operands] at hρ
 case move x=>exact does_value hm trivial (hρ x (by simp))
 case assign x=>exact does_value hm trivial (hρ x (by simp))
 case alloc T=>exact does_allocV hm (hid (nog rfl)) T hok
 case box T x=>exact does_boxV hm (hid (nog rfl)) T (hρ x (by simp)) hok
 case build T ps=>
  obtain ⟨cvs,h1,h2,h3⟩:=parts_slots (w:=w) (I:=I) (ι:=ι) (H:=H) (ps:=ps) (ρV:=ρV) (ρ:=a.eval) (fun p hp=>hρ p.2 (by simp;exact ⟨p.1,by simpa using hp⟩))
  exact does_buildV hm T _ cvs _ h1 h2 h3 hok
 case buildSlice T n ps=>
  obtain ⟨cvs,h1,h2,h3⟩:=parts_slots (w:=w) (I:=I) (ι:=ι) (H:=H) (ps:=ps) (ρV:=ρV) (ρ:=a.eval) (fun p hp=>hρ p.2 (by simp;exact ⟨p.1,by simpa using hp⟩))
  cases hob:ownB P g T n with
  |true=>
   rw [hob] at hok
   have hgf:g=false:=by cases g<;>first|rfl|(simp [ownB] at hob)
   exact does_buildOwnV hm (hid hgf) T n _ cvs _ h1 h2 h3 hok
  |false=>
   rw [hob] at hok
   exact does_buildSliceV hm T n _ cvs _ h1 h2 h3 hok
 case load T x=>exact (run_loadV hm T (hρ x (by simp)) hok).does hm
 case store T x y=>exact does_storeV hm T (hρ y (by simp)) (hρ x (by simp)) hok
 case nilCheck x=>
  have hx:=hρ x (by simp)
  split at hok
  ·rename_i i off p hv
   rw [hv] at hx
   obtain ⟨b,cap,_,e⟩:=Rep.ptr_inv hx
   have e:a.eval x=.pointer (some ⟨b,off,none⟩):=by simpa using e
   rw [e] at hx ⊢
   exact does_value hm trivial hx
  ·rename_i i len off p hv
   rw [hv] at hx
   split at hok
   ·rename_i E fz rows hH
    obtain ⟨c,img,e,hi,hr⟩:=Rep.eptr_inv hx
    obtain ⟨b,hb,e2⟩:=(hr E fz rows hH).2 hok
    have e:a.eval x=.pointer (some ⟨b,off,none⟩):=by rw [←e2];simpa using e
    rw [e] at hx ⊢
    exact does_value hm trivial hx
   ·exact does_no hok
  ·rename_i v hv
   rw [hv] at hx
   obtain ⟨b,off,l,e,_⟩:=Rep.dptr_inv hx
   have e:a.eval x=.pointer (some ⟨b,off,none⟩):=by simpa using e
   rw [e] at hx ⊢
   exact does_value hm trivial hx
  ·rename_i f caps hv
   rw [hv] at hx
   have:∃l,a.eval x=.func (.func f) #[] l:=by
    generalize a.eval x=c at hx
    cases hx with
    |imm h=>cases h;exact ⟨_,rfl⟩
    |fn h=>exact ⟨_,rfl⟩
   obtain ⟨l,e⟩:=this
   rw [e] at hx ⊢
   exact does_value hm trivial hx
  ·exact does_no hok
 case binOp op T x y T'=>exact (run_binV hm op T x y (hρ x (by simp)) (hρ y (by simp)) hok).does hm
 case unOp op T x=>exact (run_unV op (hρ x (by simp)) hok).does hm
 case convert s d x=>exact does_convertV hm g hid s d (hρ x (by simp)) hok
 case makeFunc fn first caps=>
  cases fn<;>try exact does_no hok
  rename_i f
  simp only at hok ⊢
  obtain ⟨h1,h2⟩:=hok
  have h1:first=#[]:=Array.eq_empty_of_size_eq_zero h1
  subst h1
  have:=fn_caps (f:=f) (w:=w) (I:=I) (ι:=ι) (H:=H) (l:=caps.toList) (ρV:=ρV) (ρ:=a.eval) (fun x hx=>hρ x (by simpa using hx)) h2
  refine does_pure (cv:=.func (.func f) #[] (caps.map a.eval)) hm (by simp [Instr.makeFunc]) trivial ?_
  have e:(caps.toList.map a.eval).toArray=caps.map a.eval:=by apply Array.ext';simp
  rw [e] at this
  exact this
 case makeSlice T n c=>exact does_makeSliceV hm g hid T (hρ n (by simp)) (hρ c (by simp)) hok
 case slice T x lo hi mx=>
  exact does_sliceV hm T (optS_of fun y e=>hρ y (by simp [e])) (optS_of fun y e=>hρ y (by simp [e])) (optS_of fun y e=>hρ y (by simp [e])) (hρ x (by simp)) hok
 case fieldAddr T x k=>exact (run_fieldAddrV hm T k (hρ x (by simp)) hok).does hm
 case field T x k=>exact (run_fieldV hm T k (hρ x (by simp)) hok).does hm
 case indexAddr T x i=>exact (run_indexAddrV hm T (hρ x (by simp)) (hρ i (by simp)) hok).does hm
 case index T x i=>exact (run_indexV hm T (hρ x (by simp)) (hρ i (by simp)) hok).does hm
 case extract t k=>exact (run_extractV k (hρ t (by simp)) hok).does hm
 case makeMap T r=>
  cases r with
  |some _=>exact does_no hok
  |none=>exact does_makeMapV hm (hid (nog rfl)) T none _ (fun _=>rfl) hok
 case lookup T x k ok=>exact (run_lookupV hm T ok (hρ x (by simp)) (hρ k (by simp)) hok).does hm
 case mapUpdate T m k x=>exact does_updMap hm T (hρ m (by simp)) (hρ k (by simp)) (hρ x (by simp)) hok
 case call c=>
  obtain ⟨callee,args,tys⟩:=c
  cases callee<;>try exact does_no hok
  rename_i b
  have hρ':∀x∈args.toList,Slot w I ι H (ρV x) (a.eval x):=fun x hx=>hρ x (by simp [Call.operands];simpa using hx)
  obtain ⟨args⟩:=args
  obtain ⟨tys⟩:=tys
  simp only at hok hg nog hρ' ⊢
  have hform:(do let d←resolve a.eval { callee:=.builtin b,args:=⟨args⟩,argTypes:=⟨tys⟩ } type;invoke d.target d.args:Sem Next)=
    builtin b ⟨tys⟩ type ((⟨args⟩:Array Operand).map fun| .const _=>true|_=>false) ((⟨args⟩:Array Operand).map a.eval):=rfl
  rw [hform]
  have hmm:∀(mx:Bool),(minmaxV mx (args.map ρV)).ok→Gives P H w I ι (minmaxV mx (args.map ρV)) (if mx then Builtin.max_ ⟨tys⟩ type (args.map a.eval).toArray else Builtin.min_ ⟨tys⟩ type (args.map a.eval).toArray):=fun mx hok=>
   run_minmaxV (P:=P) (w:=w) (I:=I) (ι:=ι) (H:=H) mx (xs:=args.map ρV) (cs:=args.map a.eval) (by simp) (fun i v c h1 h2=>by
    rw [List.getElem?_map] at h1 h2
    obtain ⟨x,hx,rfl⟩:=Option.map_eq_some_iff.1 h1
    rw [hx] at h2;cases h2
    exact hρ' x (List.mem_of_getElem? hx)) ⟨tys⟩ type hok
  cases b<;>try exact does_no hok
  case len=>
   cases tys with
   |nil=>exact does_no hok
   |cons T ts=>cases args with
    |nil=>exact does_no hok
    |cons y ys=>
     simp only [builtinV,List.map_cons] at hok ⊢
     exact (run_lenV hm T type (hρ' y (by simp)) _ (by simp) _ (by simp) hok).does hm
  case append=>
   match tys,args,hok,hg,hρ' with
   |[T,T2],[p,q],hok,hg,hρ'=>
    simp only [builtinV,List.map_cons,List.map_nil] at hok hg ⊢
    cases hl:lastI (ρV q) with
    |true=>
     simp only [hl] at hok hg ⊢
     have hgf:g=false:=by
      cases g
      ·rfl
      ·exact absurd (hg rfl) (appendFV_hw hok)
     have:=does_appendFV (P:=P) (U:=U) (I0:=I0) hm (hid hgf) T T2 type (hρ' p (by simp)) (hρ' q (by simp)) hok
     simpa [builtin] using this
    |false=>
     simp only [hl] at hok hg ⊢
     have hgf:g=false:=by
      cases g
      ·rfl
      ·exact absurd (hg rfl) (appendV_hw hok)
     have:=does_appendV (P:=P) (U:=U) (I0:=I0) hm (hid hgf) T T2 type (hρ' p (by simp)) (hρ' q (by simp)) hok
     simpa [builtin] using this
   |[],_,hok,_,_=>exact does_no hok
   |[_],_,hok,_,_=>exact does_no hok
   |_::_::_::_,_,hok,_,_=>exact does_no hok
   |[_,_],[],hok,_,_=>exact does_no hok
   |[_,_],[_],hok,_,_=>exact does_no hok
   |[_,_],_::_::_::_,hok,_,_=>exact does_no hok
  case copy=>
   match tys,args,hok,hg,hρ' with
   |[T,T2],[p,q],hok,hg,hρ'=>
    simp only [builtinV,List.map_cons,List.map_nil] at hok hg ⊢
    have:=does_copyV (P:=P) (U:=U) (I0:=I0) (id:=id) hm T T2 type (hρ' p (by simp)) (hρ' q (by simp)) hok
    simpa [builtin] using this
   |[],_,hok,_,_=>exact does_no hok
   |[_],_,hok,_,_=>exact does_no hok
   |_::_::_::_,_,hok,_,_=>exact does_no hok
   |[_,_],[],hok,_,_=>exact does_no hok
   |[_,_],[_],hok,_,_=>exact does_no hok
   |[_,_],_::_::_::_,hok,_,_=>exact does_no hok
  case delete=>
   match tys,args,hok,hg,hρ' with
   |T::T2::[],[p,q],hok,hg,hρ'=>
    simp only [builtinV,List.map_cons,List.map_nil] at hok hg ⊢
    have:=does_delMap (P:=P) (U:=U) (I0:=I0) (id:=id) hm T T2 type (hρ' p (by simp)) (hρ' q (by simp)) hok
    simpa [builtin] using this
   |[],_,hok,_,_=>exact does_no hok
   |[_],_,hok,_,_=>exact does_no hok
   |_::_::_::_,_,hok,_,_=>exact does_no hok
   |[_,_],[],hok,_,_=>exact does_no hok
   |[_,_],[_],hok,_,_=>exact does_no hok
   |[_,_],_::_::_::_,hok,_,_=>exact does_no hok
  case min=>
   have h1:=hmm false (by cases tys<;>exact hok)
   have:=h1.does (U:=U) (I0:=I0) (id:=id) hm
   have e:builtinV P H id .min tys (args.map ρV)=minmaxV false (args.map ρV):=by cases tys<;>rfl
   rw [e]
   simpa [builtin] using this
  case max=>
   have h1:=hmm true (by cases tys<;>exact hok)
   have:=h1.does (U:=U) (I0:=I0) (id:=id) hm
   have e:builtinV P H id .max tys (args.map ρV)=minmaxV true (args.map ρV):=by cases tys<;>rfl
   rw [e]
   simpa [builtin] using this
 all_goals exact does_no hok
end
open Go
def PSlot (w:World) (I:Nat→Prop) (v:V) (cv:Value):Prop:=Slot w I (fun _=>none) (fun _=>none) v cv
def Entered (P:Program) (f:Nat):Prop:=∀(args:Array Value) (w:World),(callFunc f args).run P w=.ok (.enter f args) w
structure CallPost (w w':World) (I:Nat→Prop) (r:V) (cv:Value) (I':Nat→Prop):Prop where
 slot:PSlot w' I' r cv
 old:∀b,b<w.heap.size→w'.heap[b]? =w.heap[b]?
 siz:w.heap.size≤w'.heap.size
 sub:∀b,I b→I' b
 org:∀b,I' b→I b∨w.heap.size≤b
 bnd:∀b,I' b→b<w'.heap.size
 os:w'.os=w.os
 tape:w'.tape=w.tape
 output:w'.output=w.output
def CallP (P:Program) (f:Nat) (args:List V) (r:V):Prop:=
 Entered P f∧∀(w:World) (I:Nat→Prop) (cargs:List Value),(∀b,I b→b<w.heap.size)→cargs.length=args.length→
  (∀(i:Nat) (v:V) (c:Value),args[i]? =some v→cargs[i]? =some c→PSlot w I v c)→
  Calls P f cargs.toArray w fun e w'=>∃cv I',e=.returned cv∧CallPost w w' I r cv I'
def gok (s:Nat→Option V):Operand→Prop
 | .tmp t=>match s t with
  |some (.gd c _)=>c=true
  |_=>True
 |_=>True
def cO:Value→V
 | .string b=>if b.size≤lenMax then .str b.data.toList else .junk
 |v=>cV v
def evO (s:Nat→Option V):Operand→V
 | .tmp t=>match s t with
  |some (.gd _ v)=>v
  |some v=>v
  |none=>.junk
 | .const v=>cO v
 | .func f=>.fn f []
 | .global _=>.junk
def goks (s:Nat→Option V) (l:List Operand):Prop:=∀x∈l,gok s x
@[simp] theorem goks_nil (s:Nat→Option V):goks s []↔True:=by simp [goks]
@[simp] theorem goks_cons (s:Nat→Option V) (x:Operand) (l:List Operand):goks s (x::l)↔gok s x∧goks s l:=by simp [goks]
def fnOf:V→Option (Nat×List V)
 | .fn f caps=>some (f,caps)
 |_=>none
def opOk (P:Program) (E:Nat→List V→Prop→V→Prop) (g:Bool) (id:Nat) (s:Nat→Option V) (H:Nat→Option Blk) (op:Op) (p:Prop) (r:V):Prop:=
 match op with
 | .call { callee:=.value f,args:=args,argTypes:=_ }=>
  match fnOf (evO s f) with
  |some (fid,caps)=>gok s f∧(∀v∈caps,v.isAgg=false)∧goks s args.toList∧(pureVs H (args.toList.map (evO s)++caps)).1∧(g=true→frz H (pureVs H (args.toList.map (evO s)++caps)).2.2=[])∧
    E fid (pureVs H (args.toList.map (evO s)++caps)).2.1 p r∧p
  |none=>False
 | .pick c a b=>match evO s c with
  | .bool t=>gok s c∧(t=true→gok s a∧∃x,evO s a=.bool x)∧(t=false→gok s b∧∃x,evO s b=.bool x)
  |_=>False
 |op=>goks s op.operands.toList∧(outOp P H g id (evO s) op).ok∧(g=true→(outOp P H g id (evO s) op).hw=[])
def opD (E:Nat→List V→Prop→V→Prop) (s:Nat→Option V) (H:Nat→Option Blk) (op:Op) (p:Prop) (r:V):Prop:=
 match op with
 | .call { callee:=.value f,args:=args,argTypes:=_ }=>match fnOf (evO s f) with
  |some (fid,caps)=>E fid (pureVs H (args.toList.map (evO s)++caps)).2.1 p r
  |none=>False
 |_=>p=True∧r=.junk
def boolOf:V→Bool
 | .bool b=>b
 |_=>false
def opV (P:Program) (g:Bool) (id:Nat) (s:Nat→Option V) (H:Nat→Option Blk) (op:Op) (r:V):V:=
 match op with
 | .call { callee:=.value _,args:=_,argTypes:=_ }=>r
 | .pick c a b=>.bool (bif boolOf (evO s c) then boolOf (evO s a) else boolOf (evO s b))
 |op=>(outOp P H g id (evO s) op).v
def opHw (P:Program) (g:Bool) (id:Nat) (s:Nat→Option V) (H:Nat→Option Blk) (op:Op):List (Nat×Blk):=
 match op with
 | .call { callee:=.value f,args:=args,argTypes:=_ }=>match fnOf (evO s f) with
  |some (_,caps)=>frz H (pureVs H (args.toList.map (evO s)++caps)).2.2
  |none=>[]
 | .pick _ _ _=>[]
 |op=>(outOp P H g id (evO s) op).hw
def opLn (P:Program) (g:Bool) (id:Nat) (s:Nat→Option V) (H:Nat→Option Blk) (op:Op):Prop:=
 match op with
 | .call { callee:=.value _,args:=_,argTypes:=_ }=>True
 | .pick _ _ _=>True
 |op=>(outOp P H g id (evO s) op).ln
structure Start where
 w:World
 ι:Nat→Option Img
 H:Nat→Option Blk
def Ev (w0:Start) (ι:Nat→Option Img) (H:Nat→Option Blk):Prop:=
 ∀id img,id<1000→w0.ι id=some img→∃img',ι id=some img'∧(img.arr=false→img'=img)∧
  ∀E fz rows,H id=some ⟨some E,fz,.agg rows⟩→∃E0 fz0 rows0,w0.H id=some ⟨some E0,fz0,.agg rows0⟩∧rows0.length≤rows.length∧(rows0.length=rows.length→img'=img)
theorem Ev.step {w0:Start} {ι ι':Nat→Option Img} {H H':Nat→Option Blk} (h:Ev w0 ι H) (hg:HGo ι ι' H H'):Ev w0 ι' H':=by
 intro id img hlt hi
 obtain ⟨img1,h1,h2,h3⟩:=h id img hlt hi
 obtain ⟨img2,g1,g2,g3⟩:=hg id img1 h1
 refine ⟨img2,g1,fun ha=>?_,fun E fz rows e=>?_⟩
 ·have:=h2 ha
  subst this
  exact g2 ha
 ·obtain ⟨E1,fz1,rows1,a1,a2,a3⟩:=g3 E fz rows e
  obtain ⟨E0,fz0,rows0,b1,b2,b3⟩:=h3 E1 fz1 rows1 a1
  exact ⟨E0,fz0,rows0,b1,by omega,fun hl=>(a3 (by omega)).trans (b3 (by omega))⟩
structure Rel (P:Program) (N:Nat) (U I0:Nat→Prop) (w0:Start) (s:Nat→Option V) (H:Nat→Option Blk) (A:Nat→Prop) (a:Act) (w:World) (I:Nat→Prop) (ι:Nat→Option Img):Prop where
 m:MRel P U I0 H w I ι
 sl:∀t v,s t=some v→Slot w I ι H v (a.tmps.getD t undef)
 sz:a.tmps.size=N
 df:a.defers=[]
 fresh:∀i,A i→ι i=none
 kU:∀b,¬U b→w.heap[b]? =w0.w.heap[b]?
 ini:∀b,I0 b→I b
 siz:w0.w.heap.size≤w.heap.size
 os:w.os=w0.w.os
 tape:w.tape=w0.w.tape
 output:w.output=w0.w.output
 ev:Ev w0 ι H
 kI:∀b,I0 b→w.heap[b]? =w0.w.heap[b]?
section
variable {P:Program} {N:Nat} {U I0:Nat→Prop} {w0:Start} {s:Nat→Option V} {H:Nat→Option Blk} {A:Nat→Prop} {a:Act} {w:World} {I:Nat→Prop} {ι:Nat→Option Img}
theorem slot_cV (v:Value) (h:∀b,v=.string b→b.size≤lenMax):Slot w I ι H (cV v) v:=by
 unfold cV
 split
 ·exact slot_bool
 ·exact slot_int
 ·rename_i s
  have:=h s rfl
  have e:(⟨s.data.toList.toArray⟩:ByteArray)=s:=by apply ByteArray.ext;simp
  have:=slot_str (w:=w) (I:=I) (ι:=ι) (H:=H) (s:=s.data.toList) this
  rwa [e] at this
 ·exact Rep.imm .nils
 ·exact Rep.imm .nilp
 ·exact Rep.imm .nilm
 ·trivial
theorem slot_strip {v:V} {cv:Value} (h:Slot w I ι H v cv) (hg:∀c u,v=.gd c u→c=true):
  Slot w I ι H (match v with| .gd _ v=>v|v=>v) cv:=by
 cases v<;>first|exact h|skip
 rename_i c u
 have hc:=hg c u rfl
 simp only [Slot] at h
 exact h.1 hc
theorem Rel.eval (h:Rel P N U I0 w0 s H A a w I ι) {x:Operand} (hg:gok s x):Slot w I ι H (evO s x) (a.eval x):=by
 cases x with
 |tmp t=>
  simp only [evO,gok] at hg ⊢
  show Slot w I ι H _ (a.tmps.getD t undef)
  cases hs:s t with
  |none=>trivial
  |some v=>
   rw [hs] at hg
   have:=slot_strip (h.sl t v hs) (fun c u e=>by subst e;exact hg)
   cases v<;>exact this
 |const v=>
  simp only [evO,cO]
  split
  ·rename_i b
   split
   ·rename_i hle
    exact slot_cV (.string b) (fun b' e=>by cases e;exact hle)
   ·trivial
  ·rename_i hb
   exact slot_cV v (fun b e=>absurd e (hb b))
 |func f=>
  simp only [evO]
  have:Imm w I (.fn f []) [.func (.func f) #[] ((List.range ([]:List V).length).map fun _=>undef).toArray]:=.fn fun i v hv=>by simp at hv
  exact Rep.imm this
 |global g=>trivial
def updS (s:Nat→Option V) (d:Option Tmp) (v:V):Nat→Option V:=match d with
 |some t=>setO s t v
 |none=>s
theorem eval_put {a:Act} {d:Option Tmp} {v:Value} (t:Nat) (h:∀x,d=some x→x<a.tmps.size):
  (a.put d v).tmps.getD t undef=if d=some t then v else a.tmps.getD t undef:=by
 cases d with
 |none=>simp [Act.put]
 |some x=>
  have:=h x rfl
  simp only [Act.put,Array.getD_eq_getD_getElem?,Array.getElem?_setIfInBounds,Option.some.injEq]
  split
  ·subst_vars;simp
  ·rfl
theorem size_put {a:Act} {d:Option Tmp} {v:Value}:(a.put d v).tmps.size=a.tmps.size:=by cases d<;>simp [Act.put]
theorem defers_put {a:Act} {d:Option Tmp} {v:Value}:(a.put d v).defers=a.defers:=by cases d<;>rfl
theorem Rel.put (h:Rel P N U I0 w0 s H A a w I ι) {w':World} {I':Nat→Prop} {ι':Nat→Option Img} {hw:List (Nat×Blk)} {v:V} {cv:Value} {d:Option Tmp} {id:Nat}
  (hm:MRel P U I0 (over H hw) w' I' ι') (hg:MGo U I I' ι ι' H (over H hw) w w') (hs:Slot w' I' ι' (over H hw) v cv) (hf:∀j,j≠id→ι j=none→ι' j=none)
  (hd:∀t,d=some t→t<N):Rel P N U I0 w0 (updS s d v) (over H hw) (fun i=>A i∧i≠id) (a.put d cv) w' I' ι':=by
 have hd':∀x,d=some x→x<a.tmps.size:=fun x e=>by rw [h.sz];exact hd x e
 refine ⟨hm,fun t u hu=>?_,by rw [size_put,h.sz],by rw [defers_put,h.df],fun i hi=>hf i hi.2 (h.fresh i hi.1),fun b hb=>(hg.kU b hb).trans (h.kU b hb),fun b hb=>hg.sub b (h.ini b hb),
  Nat.le_trans h.siz hg.siz,hg.os.trans h.os,hg.tape.trans h.tape,hg.output.trans h.output,h.ev.step hg.hgo,fun b hb=>(hg.kI b (h.ini b hb)).trans (h.kI b hb)⟩
 rw [eval_put t hd']
 cases d with
 |none=>
  simp only [updS] at hu
  simp only [reduceCtorEq,if_false]
  exact hg.slot (h.sl t u hu)
 |some x=>
  simp only [updS] at hu
  by_cases hx:t=x
  ·subst hx
   rw [setO_same] at hu
   cases hu
   simp only [if_true]
   exact hs
  ·rw [zV _ _ hx] at hu
   rw [if_neg (by simpa using fun e=>hx e.symm)]
   exact hg.slot (h.sl t u hu)
theorem pureVs_ok:∀{l:List V},(pureVs H l).1→∀v∈l,(pureV H v).ok∧v.boxy=true
 |[],_,v,hv=>by cases hv
 |x::r,h,v,hv=>by
  simp only [pureVs] at h
  rcases List.mem_cons.1 hv with rfl|hv
  ·refine ⟨h.1, ?_⟩
   have:=h.1
   cases v<;>first|rfl|(simp [pureV] at this)
  ·exact pureVs_ok h.2 v hv
theorem pureVs_get:∀(l:List V) (i:Nat) (u:V),l[i]? =some u→(pureVs H l).2.1[i]? =some (pureV H u).v
 |[],i,u,h=>by simp at h
 |x::r,0,u,h=>by simp at h;subst h;rfl
 |x::r,i+1,u,h=>by simp only [pureVs,List.getElem?_cons_succ] at h ⊢;exact pureVs_get r i u h
theorem cells_one {c:Value} (h:isCell c=true):c.cells.toList=[c]:=by cases c<;>first|rfl|cases h
theorem slot_shape {x:V} {c:Value} (hx:x.boxy=true) (hs:Slot w I ι H x c):if x.isAgg then c=.agg c.cells else c.cells.toList=[c]:=by
 cases x<;>simp only [V.boxy,Bool.false_eq_true] at hx
 case agg vs=>
  obtain ⟨cs,rfl,_⟩:=hs
  rfl
 all_goals
  have hr:Rep w I ι H _ [c]:=hs
  exact cells_one (hr.cells c (by simp))
theorem pure_isAgg {u:V} (h:(pureV H u).ok):(pureV H u).v.isAgg=u.isAgg:=by
 cases u<;>simp only [pureV] at h ⊢ <;>first|rfl|skip
 case sl id len=>
  split<;>first|rfl|skip
 case ptr id off p=>
  split<;>first|rfl|skip
  split<;>first|rfl|skip
 case own e l=>
  split<;>first|rfl|(split<;>first|rfl|(split<;>rfl))
theorem hgo_none {H':Nat→Option Blk}:HGo (fun _=>none) ι (fun _=>none) H':=fun i m h=>by cases h
theorem call_mgo {H:Nat→Option Blk} {w':World} {I':Nat→Prop} {r:V} {cv:Value} (hm:MRel P U I0 H w I ι) (hp:CallPost w w' I r cv I'):MGo U I I' ι ι H H w w':=by
 refine ⟨fun b hb=>hp.old b (hm.bnd b hb),fun b hb=>?_,hp.sub,HGo.refl,hp.siz,hp.os,hp.tape,hp.output⟩
 rcases Nat.lt_or_ge b w.heap.size with h|h
 ·exact hp.old b h
 ·exact absurd (hm.new b h) hb
theorem call_mrel {H:Nat→Option Blk} {w':World} {I':Nat→Prop} {r:V} {cv:Value} (hm:MRel P U I0 H w I ι) (hp:CallPost w w' I r cv I'):MRel P U I0 H w' I' ι:=by
 have hk:keep I w w':=fun b hb=>hp.old b (hm.bnd b hb)
 refine ⟨fun j bj hj=>(hm.heap _ _ hj).mono rfl (fun m b h1 h2=>hp.old b (hm.img j m b h1 h2).2) hk hp.sub HGo.refl rfl rfl,hm.inj,fun i m b h1 h2=>?_,fun i bi m b h1 h2 h3=>?_,hp.bnd,fun b hb=>?_,fun b hb=>hm.new b (by have:=hp.siz;omega)⟩
 ·have:=hm.img i m b h1 h2
  exact ⟨this.1,by have:=hp.siz;omega⟩
 ·obtain ⟨l1,l2⟩:=hm.live i bi m b h1 h2 h3
  refine ⟨fun h=>hp.sub _ (l1 h),fun h hI=>?_⟩
  rcases hp.org b hI with h4|h4
  ·exact l2 h h4
  ·have:=(hm.img i m b h2 h3).2;omega
 ·rcases hp.org b hb with h|h
  ·exact hm.org b h
  ·exact .inr (hm.new b h)
theorem op_sound (h:Rel P N U I0 w0 s H A a w I ι) (g:Bool) (id:Nat) (hid:g=false→A id) (o:Oper) (hd:∀t,o.dst=some t→t<N) {p:Prop} {r:V} {E:Nat→List V→Prop→V→Prop} (hE:∀f args p r,E f args p r→p→CallP P f args r) (hok:opOk P E g id s H o.op p r)
  {next:Act→World→Prop} {Q:Exit→Act→World→Prop}
  (hk:∀cv w' I' ι',opLn P g id s H o.op→Slot w' I' ι' (over H (opHw P g id s H o.op)) (opV P g id s H o.op r) cv→MRel P U I0 (over H (opHw P g id s H o.op)) w' I' ι'→
   MGo U I I' ι ι' H (over H (opHw P g id s H o.op)) w w'→(∀j,j≠id→ι j=none→ι' j=none)→next (a.put o.dst cv) w'):o.wp P a w next Q:=by
 have hdoes:∀(ou:Out),ou=outOp P H g id (evO s) o.op→opLn P g id s H o.op=ou.ln→opHw P g id s H o.op=ou.hw→opV P g id s H o.op r=ou.v→
   goks s o.op.operands.toList∧ou.ok∧(g=true→ou.hw=[])→o.wp P a w next Q:=by
  intro ou e1 e2 e3 e4 hh
  subst e1
  have:=outOp_sound h.m g (fun e=>h.fresh id (hid e)) o a (ρV:=evO s) (fun x hx=>h.eval (hh.1 x (by simpa using hx))) hh.2.2 hh.2.1
  obtain ⟨n,cv,w',I',ι',hrun,hn,hln,hslot,hm,hg,hf⟩:=this
  rw [e2,e3,e4] at hk
  have:=hk cv w' I' ι' hln hslot hm hg hf
  unfold Oper.wp
  rw [hrun]
  rcases hn with rfl|⟨rfl,rfl⟩
  ·exact this
  ·exact this
 obtain ⟨dst,op,type,pos,after,guard⟩:=o
 cases op
 case call c=>
  obtain ⟨callee,args,tys⟩:=c
  cases callee with
  |value f=>
   simp only [opOk] at hok
   split at hok
   ·rename_i fid caps hfn
    obtain ⟨k1,k0,k2,k3,k4,k5,k6⟩:=hok
    have k5:=hE _ _ _ _ k5 k6
    simp only [opLn,opHw,opV,hfn] at hk
    have hf:=h.eval k1
    have hfv:evO s f=.fn fid caps:=by
     cases hv:evO s f<;>rw [hv] at hfn<;>simp [fnOf] at hfn
     obtain ⟨rfl,rfl⟩:=hfn;rfl
    rw [hfv] at hf
    obtain ⟨capc,hcf,hcl,hcr⟩:∃capc:List Value,a.eval f=.func (.func fid) #[] capc.toArray∧capc.length=caps.length∧∀(i:Nat) (v:V) (c:Value),caps[i]? =some v→capc[i]? =some c→Rep w I ι H v [c]:=by
     generalize a.eval f=cf at hf
     have hf1:Rep w I ι H (.fn fid caps) [cf]:=hf
     clear hf
     cases hf1 with
     |imm hf=>cases hf with
      |fn hf=>
       rename_i gg
       refine ⟨_,rfl,by simp,fun i v c h1 h2=>?_⟩
       have:i<caps.length:=(List.getElem?_eq_some_iff.1 h1).1
       simp [this] at h2
       subst h2
       exact .imm (hf i v h1)
     |fn hf=>
      rename_i gg
      refine ⟨_,rfl,by simp,fun i v c h1 h2=>?_⟩
      have:i<caps.length:=(List.getElem?_eq_some_iff.1 h1).1
      simp [this] at h2
      subst h2
      exact hf i v h1
    have hexec:(execOp a.eval { dst:=dst,op:=.call { callee:=.value f,args:=args,argTypes:=tys },type:=type,pos:=pos,after:=after,guard:=guard }).run P w=
      .ok (.enter fid ((args.toList.map a.eval++capc).toArray)) w:=by
     simp only [execOp,resolve,hcf,Deferred.ofValue,Sem.run_bind,Sem.run_pure,Result.andThen_ok,invoke]
     rw [k5.1]
     congr 2
     apply Array.ext'
     simp
    generalize hpv:pureVs H (args.toList.map (evO s)++caps)=pv at*
    obtain ⟨I1,a0,a1,a2,a3⟩:=freeze_all h.m pv.2.2
    have hslots:∀(i:Nat) (v:V) (c:Value),(args.toList.map (evO s)++caps)[i]? =some v→(args.toList.map a.eval++capc)[i]? =some c→v.boxy=true→Rep w I ι H v c.cells.toList:=by
     intro i v c h1 h2 hb
     by_cases hi:i<args.toList.length
     ·rw [List.getElem?_append_left (by simpa using hi),List.getElem?_map] at h1 h2
      obtain ⟨x,hx,rfl⟩:=Option.map_eq_some_iff.1 h1
      rw [hx] at h2;cases h2
      exact (slot_cells (h.eval (k2 x (List.mem_of_getElem? hx))) hb).1
     ·rw [List.getElem?_append_right (by simp at hi ⊢;omega),List.length_map] at h1 h2
      have hr:=hcr _ v c h1 h2
      rw [cells_one (hr.cells c (by simp))];exact hr
    have hpl:pv.2.1.length=(args.toList.map (evO s)++caps).length:=by rw [←hpv];exact pureVs_length (P:=P) (U:=U) (I0:=I0) (w:=w) (I:=I) (ι:=ι) _
    have hbox:∀v∈args.toList.map (evO s)++caps,(pureV H v).ok∧v.boxy=true:=by rw [←hpv] at k3;exact pureVs_ok k3
    have hcl2:(args.toList.map a.eval++capc).length=(args.toList.map (evO s)++caps).length:=by simp [hcl]
    have himm:∀(i:Nat) (v:V) (c:Value),pv.2.1[i]? =some v→(args.toList.map a.eval++capc)[i]? =some c→PSlot w I1 v c:=by
     intro i v c h1 h2
     have hlt:i<(args.toList.map (evO s)++caps).length:=by rw [←hpl];exact (List.getElem?_eq_some_iff.1 h1).1
     obtain ⟨u,hu⟩:∃u,(args.toList.map (evO s)++caps)[i]? =some u:=⟨_,List.getElem?_eq_getElem hlt⟩
     have hb:=hbox u (List.mem_of_getElem? hu)
     have:=pures_rep h.m a3.sub (l:=pv.2.2) a1 (args.toList.map (evO s)++caps) (fun i=>((args.toList.map a.eval++capc).getD i undef).cells.toList) (fun i hi=>by rw [hpv] at hi;exact hi)
      (fun i v hv=>by
       have hlt:i<(args.toList.map a.eval++capc).length:=by rw [hcl2];exact (List.getElem?_eq_some_iff.1 hv).1
       have e:(args.toList.map a.eval++capc)[i]? =some ((args.toList.map a.eval++capc).getD i undef):=by
        rw [List.getElem?_eq_getElem hlt,List.getD_eq_getElem?_getD,List.getElem?_eq_getElem hlt];rfl
       exact hslots i v _ hv e (hbox v (List.mem_of_getElem? hv)).2)
      (by rw [hpv];exact k3) i v (by rw [hpv];exact h1)
     have e:(args.toList.map a.eval++capc).getD i undef=c:=by rw [List.getD_eq_getElem?_getD,h2];rfl
     rw [e] at this
     have hv:v=(pureV H u).v:=by
      have:=pureVs_get (H:=H) _ i u hu
      rw [hpv,h1] at this
      exact Option.some.inj this
     have hshape:if v.isAgg then c=.agg c.cells else c.cells.toList=[c]:=by
      have hia:v.isAgg=u.isAgg:=by rw [hv];exact pure_isAgg hb.1
      rw [hia]
      by_cases hi:i<args.toList.length
      ·rw [List.getElem?_append_left (by simpa using hi),List.getElem?_map] at hu h2
       obtain ⟨x,hx,rfl⟩:=Option.map_eq_some_iff.1 hu
       rw [hx] at h2;cases h2
       exact slot_shape hb.2 (h.eval (k2 x (List.mem_of_getElem? hx)))
      ·rw [List.getElem?_append_right (by simp at hi ⊢;omega),List.length_map] at hu h2
       have hr:=hcr _ u c hu h2
       rw [k0 u (List.mem_of_getElem? hu)]
       simp only [Bool.false_eq_true,if_false]
       exact cells_one (hr.cells c (by simp))
     refine slot_of_rep (cs:=c.cells.toList) (Rep.imm this) ?_
     split
     ·rename_i h;rw [if_pos h] at hshape;simpa using hshape
     ·rename_i h;rw [if_neg h] at hshape;exact hshape
    have hcalls:=k5.2 w I1 (args.toList.map a.eval++capc) a2.bnd (by rw [hcl2,hpl]) himm
    unfold Oper.wp
    rw [hexec]
    simp only [Oper.upon]
    refine Calls.mono hcalls fun e w' he=>?_
    obtain ⟨cv,I',rfl,hp⟩:=he
    simp only
    have hkold:∀b,b<w.heap.size→w'.heap[b]? =w.heap[b]?:=hp.old
    have hm':MRel P U I0 (over H (frz H pv.2.2)) w' I' ι:=call_mrel a2 hp
    have hg':MGo U I I' ι ι H (over H (frz H pv.2.2)) w w':=a3.trans (call_mgo a2 hp)
    exact hk cv w' I' ι trivial (Slot.mono (keep.refl _) (fun _ h=>h) hgo_none hp.slot) hm' hg' (fun _ _ h=>h)
   ·exact hok.elim
  |_=>exact hdoes _ rfl rfl rfl rfl hok
 case pick c x y=>
  simp only [opOk] at hok
  split at hok
  ·rename_i t ht
   obtain ⟨k1,k2,k3⟩:=hok
   have hc:=h.eval k1
   rw [ht] at hc
   have hc:=Slot.bool_inv hc
   simp only [opLn,opHw,opV,ht,boolOf] at hk
   unfold Oper.wp
   have hrun:(execOp a.eval { dst:=dst,op:=.pick c x y,type:=type,pos:=pos,after:=after,guard:=guard }).run P w=.ok (.value (if t then a.eval x else a.eval y)) w:=by
    simp only [execOp,hc,asBool,Sem.run_bind,Sem.run_pure,Result.andThen_ok]
   rw [hrun]
   refine hk _ w I ι trivial ?_ h.m MGo.refl (fun _ _ h=>h)
   cases t
   ·obtain ⟨k3,yb,k5⟩:=k3 rfl
    have:=h.eval k3
    simp only [cond_false,k5]
    rw [k5] at this
    exact this
   ·obtain ⟨k2,xb,k4⟩:=k2 rfl
    have:=h.eval k2
    simp only [cond_true,k4]
    rw [k4] at this
    exact this
  ·exact hok.elim
 all_goals exact hdoes _ rfl rfl rfl rfl hok
end
open Go
mutual
def V.ren (ρ:Nat→Nat):V→V
 | .ptr id off p=>.ptr (ρ id) off p
 | .eptr id len off p=>.eptr (ρ id) len off p
 | .sl id len=>.sl (ρ id) len
 | .agg vs=>.agg (V.rens ρ vs)
 | .tup vs=>.tup (V.rens ρ vs)
 | .fn f vs=>.fn f (V.rens ρ vs)
 | .gd g v=>.gd g (v.ren ρ)
 | .int k n=>.int k n
 | .bool b=>.bool b
 | .str s=>.str s
 | .list c vs=>.list c vs
 | .nils=>.nils
 | .dptr v=>.dptr v
 | .nilp=>.nilp
 | .own e vs=>.own e (V.rens ρ vs)
 | .nbox v=>.nbox v
 | .junk=>.junk
def V.rens (ρ:Nat→Nat):List V→List V
 |[]=>[]
 |v::r=>v.ren ρ::V.rens ρ r
end
mutual
def V.idsB:V→List Nat
 | .ptr id _ _=>[id]
 | .eptr id _ _ _=>[id]
 | .sl id _=>[id]
 | .agg vs=>V.idsBs vs
 | .tup vs=>V.idsBs vs
 | .fn _ vs=>V.idsBs vs
 | .gd _ v=>v.idsB
 | .own _ vs=>V.idsBs vs
 |_=>[]
def V.idsBs:List V→List Nat
 |[]=>[]
 |v::r=>v.idsB++V.idsBs r
end
theorem rens_get (ρ:Nat→Nat):∀(l:List V) (i:Nat),(V.rens ρ l)[i]? =(l[i]?).map (V.ren ρ)
 |[],i=>by simp [V.rens]
 |v::r,0=>by simp [V.rens]
 |v::r,i+1=>by simp only [V.rens,List.getElem?_cons_succ];exact rens_get ρ r i
theorem rens_len (ρ:Nat→Nat):∀(l:List V),(V.rens ρ l).length=l.length
 |[]=>rfl
 |v::r=>by simp only [V.rens,List.length_cons,rens_len ρ r]
theorem idsBs_mem {l:List V} {i:Nat} {v:V} (h:l[i]? =some v) {j:Nat} (hj:j∈v.idsB):j∈V.idsBs l:=by
 induction l generalizing i with
 |nil=>simp at h
 |cons x r ih=>
  simp only [V.idsBs,List.mem_append]
  cases i with
  |zero=>simp at h;subst h;exact .inl hj
  |succ i=>exact .inr (ih (by simpa using h))
section
variable {P:Program} {N:Nat} {U I0:Nat→Prop} {w0:Start} {s:Nat→Option V} {H H2:Nat→Option Blk} {A:Nat→Prop} {a:Act} {w w':World} {I I':Nat→Prop} {ι ι2:Nat→Option Img} {ρ:Nat→Nat}
theorem rens_self:∀{l:List V},(∀v∈l,v.ren ρ=v)→V.rens ρ l=l
 |[],_=>rfl
 |v::r,h=>by simp only [V.rens];rw [h v (by simp),rens_self fun u hu=>h u (by simp [hu])]
theorem Imm.ren_self {v:V} {cs:List Value} (h:Imm w I v cs):v.ren ρ=v:=by
 induction h with
 |agg h ih=>
  rename_i vs part
  simp only [V.ren]
  congr 1
  refine rens_self fun v hv=>?_
  obtain ⟨i,hi⟩:=List.getElem?_of_mem hv
  exact ih i v hi
 |fn h ih=>
  rename_i f caps g
  simp only [V.ren]
  congr 1
  refine rens_self fun v hv=>?_
  obtain ⟨i,hi⟩:=List.getElem?_of_mem hv
  exact ih i v hi
 |_=>rfl
def RenOk (ρ:Nat→Nat) (ι ι2:Nat→Option Img) (H H2:Nat→Option Blk) (l:List Nat):Prop:=
 ∀i∈l,(∀m,ι i=some m→ι2 (ρ i)=some m)∧∀E fz rows,H2 (ρ i)=some ⟨some E,fz,.agg rows⟩→H i=some ⟨some E,fz,.agg rows⟩
theorem Rep.rename {v:V} {cs:List Value} (h:Rep w I ι H v cs):RenOk ρ ι ι2 H H2 v.idsB→Rep w I ι2 H2 (v.ren ρ) cs:=by
 induction h with
 |imm h=>intro _;rw [h.ren_self];exact .imm h
 |ptr h=>intro hr;exact .ptr ((hr _ (by simp [V.idsB])).1 _ h)
 |mp h=>intro hr;simp only [V.ren,V.rens];exact .mp ((hr _ (by simp [V.idsB,V.idsBs])).1 _ h)
 |own h=>intro hr;simp only [V.ren,V.rens];exact .own ((hr _ (by simp [V.idsB,V.idsBs])).1 _ h)
 |sl hc h hh=>intro hr;exact .sl hc ((hr _ (by simp [V.idsB])).1 _ h) fun E fz rows e=>hh E fz rows ((hr _ (by simp [V.idsB])).2 _ _ _ e)
 |eptr hc h hh=>intro hr;exact .eptr hc ((hr _ (by simp [V.idsB])).1 _ h) fun E fz rows e=>hh E fz rows ((hr _ (by simp [V.idsB])).2 _ _ _ e)
 |view hc h hh=>intro hr;simp only [V.ren,V.rens];exact .view hc ((hr _ (by simp [V.idsB,V.idsBs])).1 _ h) fun E fz rows e=>hh E fz rows ((hr _ (by simp [V.idsB,V.idsBs])).2 _ _ _ e)
 |agg h ih=>
  rename_i vs part
  intro hr
  simp only [V.ren]
  rw [←rens_len ρ vs]
  refine .agg fun i v hv=>?_
  rw [rens_get] at hv
  obtain ⟨u,hu,rfl⟩:=Option.map_eq_some_iff.1 hv
  exact ih i u hu fun j hj=>hr j (by simp only [V.idsB];exact idsBs_mem hu hj)
 |fn h ih=>
  rename_i f caps g
  intro hr
  simp only [V.ren]
  rw [←rens_len ρ caps]
  refine .fn fun i v hv=>?_
  rw [rens_get] at hv
  obtain ⟨u,hu,rfl⟩:=Option.map_eq_some_iff.1 hv
  exact ih i u hu fun j hj=>hr j (by simp only [V.idsB];exact idsBs_mem hu hj)
 |junk h=>intro _;exact .junk h
theorem Slot1.rename {v:V} {cv:Value} (h:Slot1 w I ι H v cv) (hr:RenOk ρ ι ι2 H H2 v.idsB):Slot1 w I ι2 H2 (v.ren ρ) cv:=by
 cases v<;>simp only [Slot1,V.ren] at h ⊢ <;>first
  |exact Rep.rename h hr
  |(obtain ⟨cs,h1,h2⟩:=h;exact ⟨cs,h1,Rep.rename (v:=.agg _) h2 hr⟩)
theorem Slot0.rename {v:V} {cv:Value} (h:Slot0 w I ι H v cv) (hr:RenOk ρ ι ι2 H H2 v.idsB):Slot0 w I ι2 H2 (v.ren ρ) cv:=by
 by_cases ht:∃vs,v=.tup vs
 ·obtain ⟨vs,rfl⟩:=ht
  simp only [Slot0,V.ren] at h ⊢
  obtain ⟨g,h1,h2⟩:=h
  refine ⟨g,by rw [rens_len];exact h1,fun i v hv=>?_⟩
  rw [rens_get] at hv
  obtain ⟨u,hu,rfl⟩:=Option.map_eq_some_iff.1 hv
  exact Slot1.rename (h2 i u hu) fun j hj=>hr j (by simp only [V.idsB];exact idsBs_mem hu hj)
 ·have e1:Slot0 w I ι H v cv=Slot1 w I ι H v cv:=by cases v<;>first|rfl|exact absurd ⟨_,rfl⟩ ht
  have e2:Slot0 w I ι2 H2 (v.ren ρ) cv=Slot1 w I ι2 H2 (v.ren ρ) cv:=by cases v<;>first|rfl|exact absurd ⟨_,rfl⟩ ht
  rw [e2];rw [e1] at h
  exact Slot1.rename h hr
theorem Slot.rename:∀{v:V} {cv:Value},Slot w I ι H v cv→RenOk ρ ι ι2 H H2 v.idsB→Slot w I ι2 H2 (v.ren ρ) cv
 | .gd g v,cv,h,hr=>by
  simp only [V.ren]
  rw [Slot] at h ⊢
  exact ⟨fun hg=>Slot.rename (h.1 hg) fun i hi=>hr i (by simpa [V.idsB] using hi),h.2⟩
 | .int ..,cv,h,hr| .bool ..,cv,h,hr| .str ..,cv,h,hr| .list ..,cv,h,hr| .nils,cv,h,hr| .agg ..,cv,h,hr| .tup ..,cv,h,hr| .ptr ..,cv,h,hr| .eptr ..,cv,h,hr| .dptr ..,cv,h,hr| .nilp,cv,h,hr| .sl ..,cv,h,hr
 | .fn ..,cv,h,hr| .own ..,cv,h,hr| .nbox ..,cv,h,hr| .junk,cv,h,hr=>by
  simp only [V.ren]
  simp only [Slot] at h ⊢
  exact Slot0.rename h hr
def FootU (w:World) (ι:Nat→Option Img) (b:Nat):Prop:=w.heap.size≤b∨∃i m,ι i=some m∧m.b=some b
structure HPost (P:Program) (w:World) (I:Nat→Prop) (ι:Nat→Option Img) (H:Nat→Option Blk) (r:V) (H':Nat→Option Blk) (cv:Value) (w':World) (I':Nat→Prop) (ι':Nat→Option Img):Prop where
 slot:Slot w' I' ι' H' r cv
 m:MRel P (FootU w ι) I H' w' I' ι'
 ev:Ev ⟨w,ι,H⟩ ι' H'
 kU:∀b,¬FootU w ι b→w'.heap[b]? =w.heap[b]?
 ini:∀b,I b→I' b
 kI:∀b,I b→w'.heap[b]? =w.heap[b]?
 siz:w.heap.size≤w'.heap.size
 os:w'.os=w.os
 tape:w'.tape=w.tape
 output:w'.output=w.output
def CallH (P:Program) (f:Nat) (args:List V) (H:Nat→Option Blk) (r:V) (H':Nat→Option Blk):Prop:=
 Entered P f∧∀(w:World) (I:Nat→Prop) (ι:Nat→Option Img) (cargs:List Value),MRel P (FootU w ι) I H w I ι→(∀i,1000≤i→ι i=none)→cargs.length=args.length→
  (∀(i:Nat) (v:V) (c:Value),args[i]? =some v→cargs[i]? =some c→Slot w I ι H v c)→
  Calls P f cargs.toArray w fun e w'=>∃cv I' ι',e=.returned cv∧HPost P w I ι H r H' cv w' I' ι'
def Blk.ren (ρ:Nat→Nat) (b:Blk):Blk:=match b.arr with
 |some _=>b
 |none=>{ b with t:=b.t.ren ρ }
theorem Blk.ren_arr (b:Blk):(b.ren ρ).arr=b.arr:=by unfold Blk.ren;split<;>rfl
theorem Blk.ren_row (b:Blk):(b.ren ρ).row=b.row:=by
 obtain ⟨arr,fz,t⟩:=b
 cases arr<;>rfl
theorem Blk.ren_fz (b:Blk):(b.ren ρ).fz=b.fz:=by unfold Blk.ren;split<;>rfl
theorem Blk.ren_some {b:Blk} {E:Nat} {fz:Bool} {t:V} (h:b.ren ρ=⟨some E,fz,t⟩):b=⟨some E,fz,t⟩:=by
 have h1:b.arr=some E:=by rw [←Blk.ren_arr (ρ:=ρ),h]
 unfold Blk.ren at h
 rw [h1] at h
 exact h
structure Foot (ρ:Nat→Nat) (id:Nat) (Hc:Nat→Option Blk) (H H':Nat→Option Blk) (r:V):Prop where
 old:∀i b,H i=some b→Hc (ρ i)=some (b.ren ρ)∧i<1000
 inj:∀i j,(H i≠none∨H' i≠none)→(H j≠none∨H' j≠none)→ρ i=ρ j→i=j
 nu:∀i b,H' i=some b→H i=none→ρ i=id
 keepd:∀i b,H i=some b→∃b',H' i=some b'
 ids:∀i b,H i=some b→b.arr=none→∀j∈b.t.idsB,H j≠none
 ids':∀i b,H' i=some b→b.arr=none→∀j∈b.t.idsB,H' j≠none
 idr:∀j∈r.idsB,H' j≠none
open Classical in
noncomputable def backH {α:Type} (ρ:Nat→Nat) (H':Nat→Option Blk) (f:Nat→α) (g:Nat→α):Nat→α:=fun c=>if h:∃i,H' i≠none∧ρ i=c then f h.choose else g c
theorem backH_hit {α:Type} {H':Nat→Option Blk} {f g:Nat→α} {i:Nat} (hi:H' i≠none) (hinj:∀j,H' j≠none→ρ j=ρ i→j=i):backH ρ H' f g (ρ i)=f i:=by
 have h:∃j,H' j≠none∧ρ j=ρ i:=⟨i,hi,rfl⟩
 unfold backH
 rw [dif_pos h]
 rw [hinj _ h.choose_spec.1 h.choose_spec.2]
theorem yD {α:Type} {H':Nat→Option Blk} {f g:Nat→α} {c:Nat} (h:∀i,H' i≠none→ρ i≠c):backH ρ H' f g c=g c:=by
 unfold backH
 rw [dif_neg]
 rintro ⟨i,h1,h2⟩
 exact h i h1 h2
theorem callH_frame {Hc Hf Hf':Nat→Option Blk} {r:V} {id:Nat} {cv:Value} {Ic':Nat→Prop} {ιc':Nat→Option Img} (hm:MRel P U I0 Hc w I ι) (hid:ι id=none) (hf:Foot ρ id Hc Hf Hf' r)
  (hp:HPost P w I (fun i=>match Hf i with|some _=>ι (ρ i)|none=>none) Hf r Hf' cv w' Ic' ιc'):
  ∃ι2,Slot w' Ic' ι2 (backH ρ Hf' (fun i=>(Hf' i).map (Blk.ren ρ)) Hc) (r.ren ρ) cv∧MRel P U I0 (backH ρ Hf' (fun i=>(Hf' i).map (Blk.ren ρ)) Hc) w' Ic' ι2∧
   MGo U I Ic' ι ι2 Hc (backH ρ Hf' (fun i=>(Hf' i).map (Blk.ren ρ)) Hc) w w'∧∀j,j≠id→ι j=none→ι2 j=none:=by
 have hd:∀i,Hf i≠none→Hf' i≠none:=fun i h=>by
  obtain ⟨b,hb⟩:=Option.ne_none_iff_exists'.1 h
  obtain ⟨b',hb'⟩:=hf.keepd i b hb
  rw [hb'];simp
 have hinj':∀i,Hf' i≠none→∀j,Hf' j≠none→ρ j=ρ i→j=i:=fun i hi j hj e=>hf.inj j i (.inr hj) (.inr hi) e
 have hιold:∀i,Hf i≠none→∃m,ι (ρ i)=some m:=fun i h=>by
  obtain ⟨b,hb⟩:=Option.ne_none_iff_exists'.1 h
  obtain ⟨m,h1,_⟩:=hm.heap _ _ (hf.old i b hb).1
  exact ⟨m,h1⟩
 have hmissold:∀c,(∀i,Hf' i≠none→ρ i≠c)→∀i,Hf i≠none→ρ i≠c:=fun c h i hi=>h i (hd i hi)
 let ιf:Nat→Option Img:=fun i=>match Hf i with|some _=>ι (ρ i)|none=>none
 have hιf:∀i,Hf i≠none→ιf i=ι (ρ i):=fun i h=>by
  obtain ⟨b,hb⟩:=Option.ne_none_iff_exists'.1 h
  simp only [ιf,hb]
 let ι2:=backH ρ Hf' ιc' ι
 let H2:=backH ρ Hf' (fun i=>(Hf' i).map (Blk.ren ρ)) Hc
 have hH2:∀i,Hf' i≠none→H2 (ρ i)=(Hf' i).map (Blk.ren ρ):=fun i hi=>backH_hit hi (hinj' i hi)
 have hι2:∀i,Hf' i≠none→ι2 (ρ i)=ιc' i:=fun i hi=>backH_hit hi (hinj' i hi)
 have hUf:∀b,FootU w ιf b→w.heap.size≤b∨∃i m,Hf i≠none∧ι (ρ i)=some m∧m.b=some b:=by
  rintro b (h|⟨i,m,h1,h2⟩)
  ·exact .inl h
  ·refine .inr ⟨i,m, ?_, ?_,h2⟩
   ·intro e;simp only [ιf,e] at h1;cases h1
   ·rw [←hιf i (fun e=>by simp only [ιf,e] at h1;cases h1)];exact h1
 have hother:∀c m b,(∀i,Hf' i≠none→ρ i≠c)→ι c=some m→m.b=some b→¬FootU w ιf b:=by
  intro c m b hc h1 h2 hu
  rcases hUf b hu with h|⟨i,m',hi,h3,h4⟩
  ·have:=(hm.img c m b h1 h2).2;omega
  ·exact hmissold c hc i hi (hm.inj _ _ _ _ b h3 h1 h4 h2)
 have hsub:=hp.ini
 have hk:keep I w w':=hp.kI
 have hgo:HGo ι ι2 Hc H2:=by
  intro c img hc
  by_cases hex:∃i,Hf' i≠none∧ρ i=c
  ·obtain ⟨i,hi,rfl⟩:=hex
   by_cases ho:Hf i=none
   ·obtain ⟨b,hb⟩:=Option.ne_none_iff_exists'.1 hi
    have:=hf.nu i b hb ho
    rw [this,hid] at hc;cases hc
   ·obtain ⟨b,hb⟩:=Option.ne_none_iff_exists'.1 ho
    have hlt:=(hf.old i b hb).2
    obtain ⟨img',h1,h2,h3⟩:=hp.ev i img hlt (by show ιf i=some img;rw [hιf i ho];exact hc)
    refine ⟨img',by rw [hι2 i hi];exact h1,h2,fun E fz rows e=>?_⟩
    rw [hH2 i hi] at e
    obtain ⟨b1,hb1,e1⟩:=Option.map_eq_some_iff.1 e
    have e2:=Blk.ren_some e1
    obtain ⟨E0,fz0,rows0,g1,g2,g3⟩:=h3 E fz rows (by rw [hb1,e2])
    refine ⟨E0,fz0,rows0, ?_,g2,g3⟩
    rw [(hf.old i _ g1).1]
    rfl
  ·have hm':∀i,Hf' i≠none→ρ i≠c:=fun i hi e=>hex ⟨i,hi,e⟩
   refine ⟨img,by show ι2 c=_;rw [show ι2 c=ι c from yD hm'];exact hc,fun _=>rfl,fun E fz rows e=>?_⟩
   rw [show H2 c=Hc c from yD hm'] at e
   exact ⟨E,fz,rows,e,Nat.le_refl _,fun _=>rfl⟩
 have hren:∀l:List Nat,(∀j∈l,Hf' j≠none)→RenOk ρ ιc' ι2 Hf' H2 l:=by
  intro l hl i hi
  have hi':=hl i hi
  refine ⟨fun m h=>by rw [hι2 i hi'];exact h,fun E fz rows e=>?_⟩
  rw [hH2 i hi'] at e
  obtain ⟨b1,hb1,e1⟩:=Option.map_eq_some_iff.1 e
  rw [hb1,Blk.ren_some e1]
 refine ⟨ι2,Slot.rename hp.slot (hren _ hf.idr),⟨fun c b hb=>?_,fun i j m k b h1 h2 h3 h4=>?_,fun c m b h1 h2=>?_,fun c b m x h1 h2 h3=>?_,hp.m.bnd,fun b hb=>?_,fun b hb=>?_⟩,⟨hk,fun b hb=>?_,hsub,hgo,hp.siz,hp.os,hp.tape,hp.output⟩,fun j hj hjn=>?_⟩
 ·
  by_cases hex:∃i,Hf' i≠none∧ρ i=c
  ·obtain ⟨i,hi,rfl⟩:=hex
   rw [show backH ρ Hf' (fun i=>(Hf' i).map (Blk.ren ρ)) Hc (ρ i)=(Hf' i).map (Blk.ren ρ) from hH2 i hi] at hb
   obtain ⟨b1,hb1,rfl⟩:=Option.map_eq_some_iff.1 hb
   obtain ⟨img,g1,g2,g3⟩:=hp.m.heap i b1 hb1
   refine ⟨img,by rw [hι2 i hi];exact g1,by rw [Blk.ren_row];exact g2, ?_⟩
   cases harr:b1.arr with
   |none=>
    rw [harr] at g3
    rw [Blk.ren_arr,harr]
    obtain ⟨x,cs,k1,k2,k3⟩:=g3
    refine ⟨x,cs,k1,k2, ?_⟩
    have:(b1.ren ρ).t=b1.t.ren ρ:=by unfold Blk.ren;rw [harr]
    rw [this]
    exact Rep.rename k3 (hren _ (hf.ids' i b1 hb1 harr))
   |some E=>
    rw [harr] at g3
    rw [Blk.ren_arr,harr]
    have:(b1.ren ρ).t=b1.t:=by unfold Blk.ren;rw [harr]
    rw [this]
    exact g3
  ·have hm':∀i,Hf' i≠none→ρ i≠c:=fun i hi e=>hex ⟨i,hi,e⟩
   rw [show backH ρ Hf' (fun i=>(Hf' i).map (Blk.ren ρ)) Hc c=Hc c from yD hm'] at hb
   exact (hm.heap c b hb).mono (yD hm') (fun m x h1 h2=>hp.kU x (hother c m x hm' h1 h2)) hk hsub hgo rfl rfl
 ·
  by_cases hi:∃x,Hf' x≠none∧ρ x=i
  ·obtain ⟨x,hx,rfl⟩:=hi
   rw [hι2 x hx] at h1
   by_cases hj:∃y,Hf' y≠none∧ρ y=j
   ·obtain ⟨y,hy,rfl⟩:=hj
    rw [hι2 y hy] at h2
    rw [hp.m.inj x y m k b h1 h2 h3 h4]
   ·have hm':∀y,Hf' y≠none→ρ y≠j:=fun y hy e=>hj ⟨y,hy,e⟩
    rw [show ι2 j=ι j from yD hm'] at h2
    exact absurd (hp.m.img x m b h1 h3).1 (hother j k b hm' h2 h4)
  ·have hm':∀x,Hf' x≠none→ρ x≠i:=fun x hx e=>hi ⟨x,hx,e⟩
   rw [show ι2 i=ι i from yD hm'] at h1
   by_cases hj:∃y,Hf' y≠none∧ρ y=j
   ·obtain ⟨y,hy,rfl⟩:=hj
    rw [hι2 y hy] at h2
    exact absurd (hp.m.img y k b h2 h4).1 (hother i m b hm' h1 h3)
   ·have hm2:∀y,Hf' y≠none→ρ y≠j:=fun y hy e=>hj ⟨y,hy,e⟩
    rw [show ι2 j=ι j from yD hm2] at h2
    exact hm.inj i j m k b h1 h2 h3 h4
 ·
  by_cases hi:∃x,Hf' x≠none∧ρ x=c
  ·obtain ⟨x,hx,rfl⟩:=hi
   rw [hι2 x hx] at h1
   obtain ⟨g1,g2⟩:=hp.m.img x m b h1 h2
   refine ⟨?_,g2⟩
   rcases hUf b g1 with h|⟨i,m',hi,h3,h4⟩
   ·exact hm.new b h
   ·exact (hm.img _ _ _ h3 h4).1
  ·have hm':∀x,Hf' x≠none→ρ x≠c:=fun x hx e=>hi ⟨x,hx,e⟩
   rw [show ι2 c=ι c from yD hm'] at h1
   have:=hm.img c m b h1 h2
   exact ⟨this.1,by have:=hp.siz;omega⟩
 ·
  by_cases hi:∃y,Hf' y≠none∧ρ y=c
  ·obtain ⟨y,hy,rfl⟩:=hi
   rw [hι2 y hy] at h2
   rw [show backH ρ Hf' (fun i=>(Hf' i).map (Blk.ren ρ)) Hc (ρ y)=(Hf' y).map (Blk.ren ρ) from hH2 y hy] at h1
   obtain ⟨b1,hb1,rfl⟩:=Option.map_eq_some_iff.1 h1
   rw [Blk.ren_fz]
   exact hp.m.live y b1 m x hb1 h2 h3
  ·have hm':∀y,Hf' y≠none→ρ y≠c:=fun y hy e=>hi ⟨y,hy,e⟩
   rw [show ι2 c=ι c from yD hm'] at h2
   rw [show backH ρ Hf' (fun i=>(Hf' i).map (Blk.ren ρ)) Hc c=Hc c from yD hm'] at h1
   obtain ⟨l1,l2⟩:=hm.live c b m x h1 h2 h3
   refine ⟨fun h=>hsub _ (l1 h),fun h hI=>?_⟩
   rcases hp.m.org x hI with g|g
   ·exact l2 h g
   ·exact hother c m x hm' h2 h3 g
 ·
  rcases hp.m.org b hb with g|g
  ·exact hm.org b g
  ·rcases hUf b g with h|⟨i,m',hi,h3,h4⟩
   ·exact .inr (hm.new b h)
   ·exact .inr (hm.img _ _ _ h3 h4).1
 ·exact hm.new b (by have:=hp.siz;omega)
 ·refine hp.kU b fun hu=>hb ?_
  rcases hUf b hu with h|⟨i,m',hi,h3,h4⟩
  ·exact hm.new b h
  ·exact (hm.img _ _ _ h3 h4).1
 ·have hm':∀x,Hf' x≠none→ρ x≠j:=by
   intro x hx e
   by_cases ho:Hf x=none
   ·obtain ⟨b,hb⟩:=Option.ne_none_iff_exists'.1 hx
    exact hj ((hf.nu x b hb ho)▸e.symm)
   ·obtain ⟨m,hm1⟩:=hιold x ho
    rw [e,hjn] at hm1;cases hm1
  rw [show ι2 j=ι j from yD hm']
  exact hjn
end
open Go
mutual
theorem idsB_ren (ρ:Nat→Nat):∀v:V,(v.ren ρ).idsB=v.idsB.map ρ
 | .agg vs=>by simp only [V.ren,V.idsB];exact idsBs_ren ρ vs
 | .tup vs=>by simp only [V.ren,V.idsB];exact idsBs_ren ρ vs
 | .fn f vs=>by simp only [V.ren,V.idsB];exact idsBs_ren ρ vs
 | .own e vs=>by simp only [V.ren,V.idsB];exact idsBs_ren ρ vs
 | .gd g v=>by simp only [V.ren,V.idsB];exact idsB_ren ρ v
 | .ptr ..| .eptr ..| .sl ..| .int ..| .bool ..| .str ..| .list ..| .nils| .dptr ..| .nilp| .nbox ..| .junk=>by simp [V.ren,V.idsB]
theorem idsBs_ren (ρ:Nat→Nat):∀l:List V,V.idsBs (V.rens ρ l)=(V.idsBs l).map ρ
 |[]=>rfl
 |v::r=>by simp only [V.rens,V.idsBs,List.map_append,idsB_ren ρ v,idsBs_ren ρ r]
end
mutual
theorem ren_back {ρ σ:Nat→Nat}:∀v:V,(∀i∈v.idsB,σ (ρ i)=i)→(v.ren ρ).ren σ=v
 | .agg vs,h=>by simp only [V.ren];rw [rens_back vs (by simpa [V.idsB] using h)]
 | .tup vs,h=>by simp only [V.ren];rw [rens_back vs (by simpa [V.idsB] using h)]
 | .fn f vs,h=>by simp only [V.ren];rw [rens_back vs (by simpa [V.idsB] using h)]
 | .own e vs,h=>by simp only [V.ren];rw [rens_back vs (by simpa [V.idsB] using h)]
 | .gd g v,h=>by simp only [V.ren];rw [ren_back v (by simpa [V.idsB] using h)]
 | .ptr id off p,h=>by simp only [V.ren];rw [h id (by simp [V.idsB])]
 | .eptr id len off p,h=>by simp only [V.ren];rw [h id (by simp [V.idsB])]
 | .sl id len,h=>by simp only [V.ren];rw [h id (by simp [V.idsB])]
 | .int ..,_| .bool ..,_| .str ..,_| .list ..,_| .nils,_| .dptr ..,_| .nilp,_| .nbox ..,_| .junk,_=>by simp [V.ren]
theorem rens_back {ρ σ:Nat→Nat}:∀l:List V,(∀i∈V.idsBs l,σ (ρ i)=i)→V.rens σ (V.rens ρ l)=l
 |[],_=>rfl
 |v::r,h=>by
  simp only [V.rens]
  rw [ren_back v fun i hi=>h i (by simp [V.idsBs,hi]),rens_back r fun i hi=>h i (by simp [V.idsBs,hi])]
end
section
variable {P:Program} {N:Nat} {U I0:Nat→Prop} {w0:Start} {s:Nat→Option V} {H:Nat→Option Blk} {A:Nat→Prop} {a:Act} {w:World} {I:Nat→Prop} {ι:Nat→Option Img} {ρ:Nat→Nat}
open Classical in
noncomputable def unrho (ρ:Nat→Nat) (Hf:Nat→Option Blk):Nat→Nat:=fun c=>if h:∃i,Hf i≠none∧ρ i=c then h.choose else 0
theorem unrho_hit {Hf:Nat→Option Blk} (hinj:∀i j,Hf i≠none→Hf j≠none→ρ i=ρ j→i=j) {i:Nat} (hi:Hf i≠none):unrho ρ Hf (ρ i)=i:=by
 have h:∃j,Hf j≠none∧ρ j=ρ i:=⟨i,hi,rfl⟩
 unfold unrho
 rw [dif_pos h]
 exact hinj _ _ h.choose_spec.1 hi h.choose_spec.2
theorem args_pure (h:Rel P N U I0 w0 s H A a w I ι) (l:List Operand) (hg:goks s l) (hp:(pureVs H (l.map (evO s))).1):
  ∃I1,MRel P U I0 (over H (frz H (pureVs H (l.map (evO s))).2.2)) w I1 ι∧MGo U I I1 ι ι H (over H (frz H (pureVs H (l.map (evO s))).2.2)) w w∧
   ∀(i:Nat) (v:V) (c:Value),(pureVs H (l.map (evO s))).2.1[i]? =some v→(l.map a.eval)[i]? =some c→PSlot w I1 v c:=by
 generalize hpv:pureVs H (l.map (evO s))=pv at*
 obtain ⟨I1,a0,a1,a2,a3⟩:=freeze_all h.m pv.2.2
 have hslots:∀(i:Nat) (v:V) (c:Value),(l.map (evO s))[i]? =some v→(l.map a.eval)[i]? =some c→v.boxy=true→Rep w I ι H v c.cells.toList:=by
  intro i v c h1 h2 hb
  rw [List.getElem?_map] at h1 h2
  obtain ⟨x,hx,rfl⟩:=Option.map_eq_some_iff.1 h1
  rw [hx] at h2;cases h2
  exact (slot_cells (h.eval (hg x (List.mem_of_getElem? hx))) hb).1
 have hpl:pv.2.1.length=(l.map (evO s)).length:=by rw [←hpv];exact pureVs_length (P:=P) (U:=U) (I0:=I0) (w:=w) (I:=I) (ι:=ι) _
 have hbox:∀v∈l.map (evO s),(pureV H v).ok∧v.boxy=true:=by rw [←hpv] at hp;exact pureVs_ok hp
 refine ⟨I1,a2,a3, ?_⟩
 intro i v c h1 h2
 have hlt:i<(l.map (evO s)).length:=by rw [←hpl];exact (List.getElem?_eq_some_iff.1 h1).1
 obtain ⟨u,hu⟩:∃u,(l.map (evO s))[i]? =some u:=⟨_,List.getElem?_eq_getElem hlt⟩
 have hb:=hbox u (List.mem_of_getElem? hu)
 have:=pures_rep h.m a3.sub (l:=pv.2.2) a1 (l.map (evO s)) (fun i=>((l.map a.eval).getD i undef).cells.toList) (fun i hi=>by rw [hpv] at hi;exact hi)
  (fun i v hv=>by
   have hlt:i<(l.map a.eval).length:=by have:=(List.getElem?_eq_some_iff.1 hv).1;simpa using this
   have e:(l.map a.eval)[i]? =some ((l.map a.eval).getD i undef):=by
    rw [List.getElem?_eq_getElem hlt,List.getD_eq_getElem?_getD,List.getElem?_eq_getElem hlt];rfl
   exact hslots i v _ hv e (hbox v (List.mem_of_getElem? hv)).2)
  (by rw [hpv];exact hp) i v (by rw [hpv];exact h1)
 have e:(l.map a.eval).getD i undef=c:=by rw [List.getD_eq_getElem?_getD,h2];rfl
 rw [e] at this
 have hv:v=(pureV H u).v:=by
  have:=pureVs_get (H:=H) _ i u hu
  rw [hpv,h1] at this
  exact Option.some.inj this
 have hshape:if v.isAgg then c=.agg c.cells else c.cells.toList=[c]:=by
  have hia:v.isAgg=u.isAgg:=by rw [hv];exact pure_isAgg hb.1
  rw [hia]
  rw [List.getElem?_map] at hu h2
  obtain ⟨x,hx,rfl⟩:=Option.map_eq_some_iff.1 hu
  rw [hx] at h2;cases h2
  exact slot_shape hb.2 (h.eval (hg x (List.mem_of_getElem? hx)))
 refine slot_of_rep (cs:=c.cells.toList) (Rep.imm this) ?_
 split
 ·rename_i h;rw [if_pos h] at hshape;simpa using hshape
 ·rename_i h;rw [if_neg h] at hshape;exact hshape
def RId (H:Nat→Option Blk) (v:V) (j:Nat):Prop:=j∈v.idsB∨∃c∈v.idsB,∃fz t,H c=some ⟨none,fz,t⟩∧j∈t.idsB
structure OpH (P:Program) (s:Nat→Option V) (H:Nat→Option Blk) (id:Nat) (f:Operand) (args:List Operand) (v:V) (hw:List (Nat×Blk)):Prop where
 go:∃(fid:Nat) (hd rest:List Operand) (hv:List V) (Hf Hf':Nat→Option Blk) (r:V) (ρ:Nat→Nat),evO s f=.fn fid []∧gok s f∧args=hd++rest∧goks s args∧(pureVs H (rest.map (evO s))).1∧
  hd.map (evO s)=hv.map (V.ren ρ)∧(∀u∈hv,∀i∈u.idsB,Hf i≠none)∧Foot ρ id (over H (frz H (pureVs H (rest.map (evO s))).2.2)) Hf Hf' r∧
  CallH P fid (hv++(pureVs H (rest.map (evO s))).2.1) Hf r Hf'∧v=r.ren ρ∧(look hw=backH ρ Hf' (fun i=>(Hf' i).map (Blk.ren ρ)) (look (frz H (pureVs H (rest.map (evO s))).2.2))∨(Hf'=Hf∧hw=frz H (pureVs H (rest.map (evO s))).2.2))∧
  (∀i,Hf i≠none→∃x∈hd,RId H (evO s x) (ρ i))
theorem opH_sound (h:Rel P N U I0 w0 s H A a w I ι) (id:Nat) (hid:A id) (o:Oper) {f:Operand} {args:Array Operand} {tys:Array TypeId} (ho:o.op=.call ⟨.value f,args,tys⟩) {v:V} {hw:List (Nat×Blk)} (hok:OpH P s H id f args.toList v hw)
  {next:Act→World→Prop} {Q:Exit→Act→World→Prop}
  (hk:∀cv w' I' ι',Slot w' I' ι' (over H hw) v cv→MRel P U I0 (over H hw) w' I' ι'→
   MGo U I I' ι ι' H (over H hw) w w'→(∀j,j≠id→ι j=none→ι' j=none)→next (a.put o.dst cv) w'):o.wp P a w next Q:=by
 obtain ⟨fid,hd,rest,hv,Hf,Hf',r,ρ,k1,k2,k3,k4,k5,k6,k7,k8,k9,rfl,k11,k12⟩:=hok.go
 have hgr:goks s rest:=fun x hx=>k4 x (by rw [k3];exact List.mem_append_right _ hx)
 have hgh:goks s hd:=fun x hx=>k4 x (by rw [k3];exact List.mem_append_left _ hx)
 obtain ⟨I1,m1,g1,sl1⟩:=args_pure h rest hgr k5
 generalize hH1:over H (frz H (pureVs H (rest.map (evO s))).2.2)=H1 at*
 have hf:=k8
 have hinj:∀i j,Hf i≠none→Hf j≠none→ρ i=ρ j→i=j:=fun i j hi hj e=>hf.inj i j (.inl hi) (.inl hj) e
 let ιf:Nat→Option Img:=fun i=>match Hf i with|some _=>ι (ρ i)|none=>none
 have hιf:∀i,Hf i≠none→ιf i=ι (ρ i):=fun i h=>by
  obtain ⟨b,hb⟩:=Option.ne_none_iff_exists'.1 h
  simp only [ιf,hb]
 have hιs:∀i m,ιf i=some m→Hf i≠none∧ι (ρ i)=some m:=fun i m hi=>by
  have:Hf i≠none:=fun e=>by simp only [ιf,e] at hi;cases hi
  exact ⟨this,by rw [←hιf i this];exact hi⟩
 have hun:∀l:List Nat,(∀j∈l,Hf j≠none)→RenOk (unrho ρ Hf) ι ιf H1 Hf (l.map ρ):=by
  intro l hl c hc
  obtain ⟨i,hi,rfl⟩:=List.mem_map.1 hc
  have hi':=hl i hi
  rw [unrho_hit hinj hi']
  refine ⟨fun m hm=>by rw [hιf i hi'];exact hm,fun E fz rows e=>?_⟩
  rw [(hf.old i _ e).1]
  rfl
 have hback:∀u:V,(∀i∈u.idsB,Hf i≠none)→(u.ren ρ).ren (unrho ρ Hf)=u:=fun u hu=>ren_back u fun i hi=>unrho_hit hinj (hu i hi)
 have mf:MRel P (FootU w ιf) I1 Hf w I1 ιf:=by
  refine ⟨fun i b hb=>?_,fun i j m k b h1 h2 h3 h4=>?_,fun i m b h1 h2=>?_,fun i b m x h1 h2 h3=>?_,m1.bnd,fun b hb=>.inl hb,fun b hb=>.inl hb⟩
  ·have hne:Hf i≠none:=by rw [hb];simp
   obtain ⟨img,e1,e2,e3⟩:=m1.heap (ρ i) _ (hf.old i b hb).1
   refine ⟨img,by rw [hιf i hne];exact e1,by rw [Blk.ren_row] at e2;exact e2, ?_⟩
   rw [Blk.ren_arr] at e3
   cases harr:b.arr with
   |none=>
    rw [harr] at e3
    obtain ⟨x,cs,q1,q2,q3⟩:=e3
    refine ⟨x,cs,q1,q2, ?_⟩
    have et:(b.ren ρ).t=b.t.ren ρ:=by unfold Blk.ren;rw [harr]
    rw [et] at q3
    have:=Rep.rename (ρ:=unrho ρ Hf) (ι2:=ιf) (H2:=Hf) q3 (by rw [idsB_ren];exact hun _ (hf.ids i b hb harr))
    rwa [hback _ (hf.ids i b hb harr)] at this
   |some E=>
    rw [harr] at e3
    have et:(b.ren ρ).t=b.t:=by unfold Blk.ren;rw [harr]
    rw [et] at e3
    exact e3
  ·obtain ⟨n1,e1⟩:=hιs i m h1
   obtain ⟨n2,e2⟩:=hιs j k h2
   exact hinj i j n1 n2 (m1.inj _ _ _ _ b e1 e2 h3 h4)
  ·exact ⟨.inr ⟨i,m,h1,h2⟩,(m1.img _ m b (hιs i m h1).2 h2).2⟩
  ·obtain ⟨n1,e1⟩:=hιs i m h2
   have:=m1.live (ρ i) _ m x (hf.old i b h1).1 e1 h3
   rw [Blk.ren_fz] at this
   exact this
 have hexec:(execOp a.eval o).run P w=.ok (.enter fid ((hd.map a.eval++rest.map a.eval).toArray)) w:=by
  obtain ⟨dst,op,type,pos,after,guard⟩:=o
  simp only at ho
  subst ho
  have hcf:a.eval f=.func (.func fid) #[] #[]:=by
   have hs:=h.eval k2
   rw [k1] at hs
   have hs1:Rep w I ι H (.fn fid []) [a.eval f]:=hs
   clear hs
   generalize a.eval f=cf at hs1
   cases hs1 with
   |imm hi=>cases hi with
    |fn hi=>rfl
   |fn hi=>rfl
  simp only [execOp,resolve,hcf,Deferred.ofValue,Sem.run_bind,Sem.run_pure,Result.andThen_ok,invoke]
  rw [k9.1]
  congr 2
  apply Array.ext'
  simp [k3]
 have hhl:hv.length=hd.length:=by have:=congrArg List.length k6;simpa using this.symm
 have hcalls:=k9.2 w I1 ιf (hd.map a.eval++rest.map a.eval) mf (fun i hi=>by
   cases hh:Hf i with
   |none=>simp only [ιf,hh]
   |some b=>have:=(hf.old i b hh).2;omega) (by
   have hpl:(pureVs H (rest.map (evO s))).2.1.length=(rest.map (evO s)).length:=pureVs_length (P:=P) (U:=U) (I0:=I0) (w:=w) (I:=I) (ι:=ι) _
   simp [hhl,hpl]) (fun i u c hu hc=>by
   by_cases hi:i<hv.length
   ·rw [List.getElem?_append_left hi] at hu
    rw [List.getElem?_append_left (by simp;omega),List.getElem?_map] at hc
    obtain ⟨x,hx,rfl⟩:=Option.map_eq_some_iff.1 hc
    have hs:=g1.slot (h.eval (hgh x (List.mem_of_getElem? hx)))
    have he:evO s x=u.ren ρ:=by
     have h1:(hd.map (evO s))[i]? =some (evO s x):=by rw [List.getElem?_map,hx];rfl
     rw [k6,List.getElem?_map,hu] at h1
     exact (Option.some.inj h1).symm
    rw [he] at hs
    have hiu:=k7 u (List.mem_of_getElem? hu)
    have:=Slot.rename (ρ:=unrho ρ Hf) (ι2:=ιf) (H2:=Hf) hs (by rw [idsB_ren];exact hun _ hiu)
    rwa [hback u hiu] at this
   ·rw [List.getElem?_append_right (by omega)] at hu
    rw [List.getElem?_append_right (by simp;omega),List.length_map,←hhl] at hc
    have:=sl1 (i-hv.length) u c hu hc
    exact Slot.mono (keep.refl w) (fun _ h=>h) (fun i m hi=>by cases hi) this)
 unfold Oper.wp
 rw [hexec]
 simp only [Oper.upon]
 refine Calls.mono hcalls fun e w' he=>?_
 obtain ⟨cv,I',ι',rfl,hp⟩:=he
 simp only
 obtain ⟨ι2,q1,q2,q3,q4⟩:=callH_frame m1 (h.fresh id hid) hf hp
 have eH:over H hw=backH ρ Hf' (fun i=>(Hf' i).map (Blk.ren ρ)) H1:=by
  funext c
  rcases k11 with k11|⟨eHf,ehw⟩
  rotate_left
  ·rw [ehw,hH1,eHf]
   by_cases hex:∃i,Hf i≠none∧ρ i=c
   ·obtain ⟨i,hi,rfl⟩:=hex
    rw [backH_hit hi fun j hj e=>hinj j i hj hi e]
    obtain ⟨b,hb⟩:=Option.ne_none_iff_exists'.1 hi
    rw [hb,(hf.old i b hb).1];rfl
   ·rw [yD fun i hi e=>hex ⟨i,hi,e⟩]
  have e1:over H hw c=match look hw c with|some b=>some b|none=>H c:=rfl
  rw [e1,k11,←hH1]
  by_cases hex:∃i,Hf' i≠none∧ρ i=c
  ·obtain ⟨i,hi,rfl⟩:=hex
   have hj:∀j,Hf' j≠none→ρ j=ρ i→j=i:=fun j hj e=>hf.inj j i (.inr hj) (.inr hi) e
   rw [backH_hit hi hj,backH_hit hi hj]
   obtain ⟨b,hb⟩:=Option.ne_none_iff_exists'.1 hi
   rw [hb];rfl
  ·have hm':∀i,Hf' i≠none→ρ i≠c:=fun i hi e=>hex ⟨i,hi,e⟩
   rw [yD hm',yD hm']
   rfl
 rw [eH] at hk
 exact hk cv w' I' ι2 q1 q2 (g1.trans q3) q4
end
def HOp (P:Program) (s:Nat→Option V) (H:Nat→Option Blk) (id:Nat) (op:Op) (v:V) (hw:List (Nat×Blk)):Prop:=match op with
 | .call { callee:=.value f,args:=args,argTypes:=_ }=>OpH P s H id f args.toList v hw
 |_=>False
theorem HOp_call {P:Program} {s:Nat→Option V} {H:Nat→Option Blk} {id:Nat} {op:Op} {v:V} {hw:List (Nat×Blk)} (h:HOp P s H id op v hw):∃f args tys,op=.call ⟨.value f,args,tys⟩∧OpH P s H id f args.toList v hw:=by
 cases op
 case call c=>
  obtain ⟨callee,args,tys⟩:=c
  cases callee with
  |value f=>exact ⟨f,args,tys,rfl,h⟩
  |_=>exact h.elim
 all_goals exact h.elim
open Go
def gval (s:Nat→Option V):Option Tmp→Option (Bool×Bool)
 |some t=>match s t with
  |some (.bool b)=>some (true,b)
  |some (.gd c (.bool b))=>some (c,b)
  |some (.gd false _)=>some (false,false)
  |_=>none
 |none=>none
def dstOk (N:Nat):Option Tmp→Prop
 |some t=>t<N
 |none=>True
def opW (P:Program) (E:Nat→List V→Prop→V→Prop) (N:Nat) (ops:Array Oper) (id:Nat) (s:Nat→Option V) (H:Nat→Option Blk) (o:Oper) (k:V→List (Nat×Blk)→Prop→Prop):Prop:=
 dstOk N o.dst∧match o.guard with
 |none=>(∃p r,opD E s H o.op p r∧opOk P E false id s H o.op p r∧k (opV P false id s H o.op r) (opHw P false id s H o.op) (opLn P false id s H o.op))∨
   ∃v hw,HOp P s H id o.op v hw∧k v hw True
 |some (j,want)=>match gval s ((ops[j]?).bind (·.dst)) with
  |some (c,b)=>(∃p r,opD E s H o.op p r∧((c&&(b==want))=true→opOk P E true id s H o.op p r∧opHw P true id s H o.op=[])∧
    k (.gd (c&&(b==want)) (opV P true id s H o.op r)) [] ((c&&(b==want))=true→opLn P true id s H o.op))∨
    ∃v hw,((c&&(b==want))=true→HOp P s H id o.op v hw)∧((c&&(b==want))=false→hw=[])∧k (.gd (c&&(b==want)) v) hw True
  |none=>False
def nilC (P:Program) (s:Nat→Option V) (o:Oper):Option (Prop×(Bool→Prop)):=match o.guard with
 |some _=>none
 |none=>match o.op with
  | .binOp .eql T x y _=>match y with
   | .const (.slice none 0 0)=>match elemT P T with
    |some _=>match evO s x with
     | .list _ vs=>some (gok s x,fun b=>vs≠[]→b=false)
     | .nils=>some (gok s x,fun b=>b=true)
     |_=>none
    |none=>none
   |_=>none
  |_=>none
section
variable {P:Program} {N:Nat} {U I0:Nat→Prop} {w0:Start} {s:Nat→Option V} {H:Nat→Option Blk} {A:Nat→Prop} {a:Act} {w:World} {I:Nat→Prop} {ι:Nat→Option Img}
theorem Rel.weakA {A':Nat→Prop} (h:Rel P N U I0 w0 s H A a w I ι) (hA:∀i,A' i→A i):Rel P N U I0 w0 s H A' a w I ι:=
 { h with fresh:=fun i hi=>h.fresh i (hA i hi) }
theorem nilC_sound {id:Nat} (h:Rel P N U I0 w0 s H A a w I ι) {o:Oper} (hd:dstOk N o.dst) {q:Prop×(Bool→Prop)} (hq:nilC P s o=some q) (hg:q.1)
  {next:Act→World→Prop} {Q:Exit→Act→World→Prop} (hn:∀b,q.2 b→∀a',Rel P N U I0 w0 (updS s o.dst (.bool b)) H (fun i=>A i∧i≠id) a' w I ι→next a' w):o.guard=none∧o.wp P a w next Q:=by
 have hd':∀t,o.dst=some t→t<N:=fun t e=>by rw [e] at hd;exact hd
 obtain ⟨dst,op,type,pos,after,guard⟩:=o
 simp only at hd' hn
 unfold nilC at hq
 simp only at hq
 split at hq
 ·cases hq
 rename_i eg
 refine ⟨by simp, ?_⟩
 split at hq
 ·rename_i _ T x y T'
  split at hq
  ·split at hq
   ·rename_i E hE
    have fin:∀(ad:Option Addr) (n cap:Nat),a.eval x=.slice ad n cap→q.2 ad.isNone→Oper.wp P ⟨dst,.binOp .eql T x (.const (.slice none 0 0)) T',type,pos,after,none⟩ a w next Q:=by
     intro ad n cap hx hb
     unfold Oper.wp
     have hrun:(execOp a.eval ⟨dst,.binOp .eql T x (.const (.slice none 0 0)) T',type,pos,after,none⟩).run P w=.ok (.value (.bool ad.isNone)) w:=by
      have e1:(eqGuard .eql T x (.const (.slice none 0 0)) (.slice ad n cap) (.slice none 0 0)).run P w=.ok () w:=rfl
      have e2:(Go.binOp .eql T (.slice ad n cap) (.slice none 0 0)).run P w=.ok (.bool ad.isNone) w:=by
       simp only [Go.binOp]
       simp [run_equal_slice_nil w T E ad n cap (elemT_und hE)]
      have e3:a.eval (.const (.slice none 0 0))=.slice none 0 0:=rfl
      simp only [execOp,hx,e3,Sem.run_bind,e1,e2,Result.andThen_ok,Sem.run_pure]
     rw [hrun]
     exact hn _ hb _ (h.put (hw:=[]) (id:=id) h.m MGo.refl slot_bool (fun _ _ h=>h) hd')
    split at hq
    ·rename_i c vs ev
     cases hq
     have hs:=h.eval hg
     rw [ev] at hs
     have hi:=Rep.list_inv hs
     generalize hce:a.eval x=ce at hi
     cases hi with
     |list hlen hcap hc hm hsz hr=>
      rename_i ad cap sz part
      refine fin ad vs.length cap hce fun hne=>?_
      obtain ⟨b,e,_⟩:=hm hne
      rw [e];rfl
    ·rename_i ev
     cases hq
     have hs:=h.eval hg
     rw [ev] at hs
     have hs:Rep w I ι H .nils [a.eval x]:=hs
     generalize hce:a.eval x=ce at hs
     cases hs with
     |imm hi=>cases hi;exact fin none 0 0 hce rfl
    ·cases hq
   ·cases hq
  ·cases hq
 ·cases hq
theorem gval_wanted (h:Rel P N U I0 w0 s H A a w I ι) {ops:Array Oper} {j:Nat} {want c b:Bool} (hg:gval s ((ops[j]?).bind (·.dst))=some (c,b)):
  (yielded ops a.tmps j==some want)=(c&&(b==want)):=by
 unfold gval at hg
 unfold yielded
 cases hd:(ops[j]?).bind (·.dst) with
 |none=>rw [hd] at hg;cases hg
 |some t=>
  rw [hd] at hg
  simp only at hg
  have key:∀b',a.tmps.getD t undef=.bool b'→a.tmps[t]? =some (.bool b'):=by
   intro b' he
   rw [Array.getD_eq_getD_getElem?] at he
   cases hq:a.tmps[t]? with
   |none=>rw [hq] at he;cases he
   |some v=>rw [hq] at he;simp only [Option.getD_some] at he;rw [he]
  split at hg
  ·rename_i b' hs
   cases hg
   have:=key b (Slot.bool_inv (h.sl t _ hs))
   simp [this]
  ·rename_i c' b' hs
   cases hg
   have hsl:=h.sl t _ hs
   cases c with
   |true=>
    have hb:Slot w I ι H (.bool b) (a.tmps.getD t undef):=hsl.1 rfl
    have:=key b (Slot.bool_inv hb)
    simp [this]
   |false=>
    have hu:=hsl.2 rfl
    rw [Array.getD_eq_getD_getElem?] at hu
    cases hq:a.tmps[t]? with
    |none=>simp [hq]
    |some v=>rw [hq] at hu;simp only [Option.getD_some] at hu;subst hu;simp [hq,undef]
  ·rename_i hs
   cases hg
   have hsl:=h.sl t _ hs
   have hu:=hsl.2 rfl
   rw [Array.getD_eq_getD_getElem?] at hu
   cases hq:a.tmps[t]? with
   |none=>simp [hq]
   |some v=>rw [hq] at hu;simp only [Option.getD_some] at hu;subst hu;simp [hq,undef]
  ·cases hg
theorem slot_off (v:V):Slot w I ι H (.gd false v) undef:=by
 rw [Slot]
 exact ⟨fun e=>(by cases e),fun _=>rfl⟩
theorem opW_sound {E:Nat→List V→Prop→V→Prop} (hE:∀f args p r,E f args p r→p→CallP P f args r) (h:Rel P N U I0 w0 s H A a w I ι) {ops:Array Oper} {id:Nat} (hid:A id) {o:Oper} {k:V→List (Nat×Blk)→Prop→Prop} (hk:opW P E N ops id s H o k)
  {next:Act→World→Prop} {Q:Exit→Act→World→Prop}
  (hn:∀v hw ln,k v hw ln→ln→∀a' w' I' ι',Rel P N U I0 w0 (updS s o.dst v) (over H hw) (fun i=>A i∧i≠id) a' w' I' ι'→next a' w'):
  if Region.wanted o (yielded ops a.tmps) then o.wp P a w next Q else next (a.put o.dst undef) w:=by
 obtain ⟨hd,hk⟩:=hk
 have hd':∀t,o.dst=some t→t<N:=fun t e=>by rw [e] at hd;exact hd
 cases hg:o.guard with
 |none=>
  rw [hg] at hk
  simp only [Region.wanted,hg,if_true]
  rcases hk with hk|⟨v,hw,hok,hk⟩
  rotate_left
  ·obtain ⟨f,args,tys,e,hok⟩:=HOp_call hok
   refine opH_sound h id hid o e hok fun cv w' I' ι' hs hm hgo hf=>?_
   exact hn _ _ _ hk trivial _ _ _ _ (h.put hm hgo hs hf hd')
  obtain ⟨p',r,_,hok,hk⟩:=hk
  refine op_sound h false id (fun _=>hid) o hd' hE hok fun cv w' I' ι' hln hs hm hgo hf=>?_
  exact hn _ _ _ hk hln _ _ _ _ (h.put hm hgo hs hf hd')
 |some p=>
  obtain ⟨j,want⟩:=p
  rw [hg] at hk
  simp only at hk
  cases hv:gval s ((ops[j]?).bind (·.dst)) with
  |none=>rw [hv] at hk;exact hk.elim
  |some cb=>
   obtain ⟨c,b⟩:=cb
   rw [hv] at hk
   simp only at hk
   have hwant:Region.wanted o (yielded ops a.tmps)=(c&&(b==want)):=by
    simp only [Region.wanted,hg]
    exact gval_wanted h hv
   rw [hwant]
   generalize (c&&(b==want))=cc at*
   rcases hk with hk|⟨v,hw,hok,hnil,hk⟩
   rotate_left
   ·cases cc with
    |true=>
     simp only [if_true]
     obtain ⟨f,args,tys,e,hok⟩:=HOp_call (hok rfl)
     refine opH_sound h id hid o e hok fun cv w' I' ι' hs hm hgo hf=>?_
     refine hn _ _ _ hk trivial _ _ _ _ (h.put hm hgo ?_ hf hd')
     simp only [Slot]
     exact ⟨fun _=>hs,fun e=>by cases e⟩
    |false=>
     have:=hnil rfl
     subst this
     simp only [Bool.false_eq_true,if_false]
     exact hn _ _ _ hk trivial _ _ _ _ (h.put (hw:=[]) (cv:=undef) h.m MGo.refl (slot_off _) (fun _ _ h=>h) hd')
   obtain ⟨p',r,_,hok,hk⟩:=hk
   cases cc with
   |true=>
    simp only [if_true]
    obtain ⟨hok,hhw⟩:=hok rfl
    refine op_sound h true id (fun e=>by cases e) o hd' hE hok fun cv w' I' ι' hln hs hm hgo hf=>?_
    rw [hhw] at hs hm hgo
    refine hn _ _ _ hk (fun _=>hln) _ _ _ _ (h.put (hw:=[]) hm hgo ?_ hf hd')
    simp only [Slot]
    exact ⟨fun _=>hs,fun e=>by cases e⟩
   |false=>
    simp only [Bool.false_eq_true,if_false]
    exact hn _ _ _ hk (fun e=>by cases e) _ _ _ _ (h.put (hw:=[]) (cv:=undef) h.m MGo.refl (slot_off _) (fun _ _ h=>h) hd')
def wpL (P:Program) (E:Nat→List V→Prop→V→Prop) (N:Nat) (ops:Array Oper) (K:Nat→(Nat→Option V)→(Nat→Option Blk)→Prop):List Oper→Nat→(Nat→Option V)→(Nat→Option Blk)→Prop
 |[],id,s,H=>K id s H
 |o::l,id,s,H=>(∃q,nilC P s o=some q∧q.1∧dstOk N o.dst∧∀b,q.2 b→wpL P E N ops K l (id+1) (updS s o.dst (.bool b)) H)∨opW P E N ops id s H o fun v hw ln=>ln→wpL P E N ops K l (id+1) (updS s o.dst v) (over H hw)
theorem wpL_sound {E:Nat→List V→Prop→V→Prop} (hE:∀f args p r,E f args p r→p→CallP P f args r) {ops:Array Oper} {K:Nat→(Nat→Option V)→(Nat→Option Blk)→Prop} {Q:Exit→Act→World→Prop}:
  ∀(l:List Oper) (id:Nat) (s:Nat→Option V) (H:Nat→Option Blk) (a:Act) (w:World) (I:Nat→Prop) (ι:Nat→Option Img),Rel P N U I0 w0 s H (id≤·) a w I ι→wpL P E N ops K l id s H→
   (∀id s H a w I ι,K id s H→Rel P N U I0 w0 s H (id≤·) a w I ι→Q .normal a w)→wpList P ops Q l a w
 |[],id,s,H,a,w,I,ι,h,hk,hQ=>hQ _ _ _ _ _ _ _ hk h
 |o::l,id,s,H,a,w,I,ι,h,hk,hQ=>by
  rcases hk with ⟨q,hq,hg,hd,hb⟩|hk
  ·have:=nilC_sound (Q:=Q) (id:=id) h hd hq hg (next:=wpList P ops Q l) (fun b hb' a' h'=>wpL_sound hE l (id+1) _ _ a' w I ι (h'.weakA (fun i hi=>⟨by omega,by omega⟩)) (hb b hb') hQ)
   unfold wpList
   have hw:Region.wanted o (yielded ops a.tmps)=true:=by simp only [Region.wanted,this.1]
   rw [if_pos hw]
   exact .inl this.2
  have:=opW_sound (Q:=Q) hE h (Nat.le_refl id) hk (next:=wpList P ops Q l) (fun v hw ln hk hln a' w' I' ι' h'=>
   wpL_sound hE l (id+1) _ _ a' w' I' ι' (h'.weakA (fun i hi=>⟨by omega,by omega⟩)) (hk hln) hQ)
  unfold wpList
  split
  ·rename_i hw;rw [if_pos hw] at this;exact .inl this
  ·rename_i hw;rw [if_neg hw] at this;exact this
def Tr (P:Program) (N:Nat) (c:Code) (n:Nat) (s:Nat→Option V) (H:Nat→Option Blk) (K:Exit→Nat→(Nat→Option V)→(Nat→Option Blk)→Prop):Prop:=
 ∀(U I0:Nat→Prop) (w0:Start) (a:Act) (w:World) (I:Nat→Prop) (ι:Nat→Option Img),Rel P N U I0 w0 s H (n≤·) a w I ι→
  c.wp P (fun e a' w'=>∃n' s' H' I' ι',K e n' s' H'∧Rel P N U I0 w0 s' H' (n'≤·) a' w' I' ι') a w
variable {n:Nat} {K:Exit→Nat→(Nat→Option V)→(Nat→Option Blk)→Prop}
theorem tr_region {E:Nat→List V→Prop→V→Prop} (hE:∀f args p r,E f args p r→p→CallP P f args r) {id:Nat} {ops:Array Oper} (h:wpL P E N ops (K .normal) ops.toList n s H):Tr P N (.region id ops false) n s H K:=
 fun U I0 w0 a w I ι hr=>wp_region_list (wpL_sound hE ops.toList n s H a w I ι hr h fun id s H a w I ι k r=>⟨id,s,H,I,ι,k,r⟩)
end
open Go
mutual
def V.ids:V→List Nat
 | .ptr id _ _=>[id]
 | .eptr id _ _ _=>[id]
 | .sl id _=>[id]
 | .agg vs=>V.idss vs
 | .tup vs=>V.idss vs
 | .fn _ vs=>V.idss vs
 | .gd _ v=>v.ids
 | .own _ vs=>V.idss vs
 |_=>[]
def V.idss:List V→List Nat
 |[]=>[]
 |v::r=>v.ids++V.idss r
end
section
variable {P:Program} {H H':Nat→Option Blk}
theorem seqOf_congr {x:V} (h:∀i∈x.ids,H i=H' i):seqOf H x=seqOf H' x:=by
 cases x<;>first|rfl|(simp only [seqOf];rw [h _ (by simp [V.ids])])
mutual
theorem pureV_congr:∀(x:V),(∀i∈x.ids,H i=H' i)→pureV H x=pureV H' x
 | .agg vs,h=>by simp only [pureV];rw [pureVs_congr vs (fun i hi=>h i (by simpa [V.ids] using hi))]
 | .sl id len,h=>by simp only [pureV];rw [h id (by simp [V.ids])]
 | .int ..,h| .bool ..,h| .str ..,h| .list ..,h| .nils,h| .tup ..,h| .eptr ..,h| .dptr ..,h| .nilp,h| .nbox ..,h| .gd ..,h| .junk,h=>by simp only [pureV]
 | .own e l,h=>by
  simp only [pureV]
  split<;>first|rfl|skip
  split<;>first|rfl|skip
  rename_i i _ _
  rw [h i (by simp [V.ids,V.idss])]
 | .ptr id off p,h=>by simp only [pureV];rw [h id (by simp [V.ids])]
 | .fn f caps,h=>by simp only [pureV];rw [pureVs_congr caps (fun i hi=>h i (by simpa [V.ids] using hi))]
theorem pureVs_congr:∀(l:List V),(∀i∈V.idss l,H i=H' i)→pureVs H l=pureVs H' l
 |[],h=>rfl
 |v::r,h=>by
  simp only [pureVs]
  rw [pureV_congr v (fun i hi=>h i (by simp [V.idss,hi])),pureVs_congr r (fun i hi=>h i (by simp [V.idss,hi]))]
end
mutual
theorem pureV_fz:∀(x:V) (i:Nat),i∈(pureV H x).fz→i∈x.ids
 | .agg vs,i,h=>by simp only [pureV] at h;simpa [V.ids] using pureVs_fz vs i h
 | .sl id len,i,h=>by
  simp only [pureV] at h
  split at h
  ·simpa [V.ids] using h
  ·simp at h
 | .int ..,i,h| .bool ..,i,h| .str ..,i,h| .list ..,i,h| .nils,i,h| .tup ..,i,h| .eptr ..,i,h| .dptr ..,i,h| .nilp,i,h| .nbox ..,i,h| .gd ..,i,h| .junk,i,h=>by
  simp [pureV] at h
 | .fn f caps,i,h=>by simp only [pureV] at h;simpa [V.ids] using pureVs_fz caps i h
 | .ptr id off p,i,h=>by
  simp only [pureV] at h
  split at h
  ·split at h
   ·simpa [V.ids] using h
   ·simp at h
  ·simp at h
 | .own e l,i,h=>by
  simp only [pureV] at h
  split at h<;>first|(simp at h;done)|skip
  split at h<;>first|(simp at h;done)|skip
  split at h<;>first|(simp at h;done)|skip
  simpa [V.ids,V.idss] using h
theorem pureVs_fz:∀(l:List V) (i:Nat),i∈(pureVs H l).2.2→i∈V.idss l
 |[],i,h=>by simp [pureVs] at h
 |v::r,i,h=>by
  simp only [pureVs,List.mem_append] at h
  simp only [V.idss,List.mem_append]
  exact h.imp (pureV_fz v i) (pureVs_fz r i)
end
theorem freeze_congr:∀(l:List Nat),(∀i∈l,H i=H' i)→frz H l=frz H' l
 |[],h=>rfl
 |i::r,h=>by simp only [frz];rw [h i (by simp),freeze_congr r fun j hj=>h j (by simp [hj])]
theorem freeze_pure_congr (x:V) (h:∀i∈x.ids,H i=H' i):frz H (pureV H x).fz=frz H' (pureV H' x).fz:=by
 rw [pureV_congr x h]
 exact freeze_congr _ fun i hi=>h i (pureV_fz x i hi)
theorem freeze_pures_congr (l:List V) (h:∀i∈V.idss l,H i=H' i):frz H (pureVs H l).2.2=frz H' (pureVs H' l).2.2:=by
 rw [pureVs_congr l h]
 exact freeze_congr _ fun i hi=>h i (pureVs_fz l i hi)
theorem mem_idss {l:List V} {v:V} (hv:v∈l) {i:Nat} (hi:i∈v.ids):i∈V.idss l:=by
 induction l with
 |nil=>cases hv
 |cons a r ih=>
  simp only [V.idss,List.mem_append]
  rcases List.mem_cons.1 hv with rfl|hv
  ·exact .inl hi
  ·exact .inr (ih hv)
theorem mem_idss_inv {l:List V} {i:Nat} (hi:i∈V.idss l):∃v∈l,i∈v.ids:=by
 induction l with
 |nil=>simp [V.idss] at hi
 |cons a r ih=>
  simp only [V.idss,List.mem_append] at hi
  rcases hi with hi|hi
  ·exact ⟨a,by simp,hi⟩
  ·obtain ⟨v,hv,h⟩:=ih hi
   exact ⟨v,by simp [hv],h⟩
theorem mapEs_congr {x:V} (h:∀i∈x.ids,H i=H' i):mapEs H x=mapEs H' x:=by
 unfold mapEs
 split<;>first|rfl|skip
 split<;>first|rfl|skip
 split<;>first|rfl|skip
 rename_i i _ _
 rw [h i (by simp [V.ids,V.idss])]
theorem delMap_congr (T:Nat) (k:V) {x:V} (h:∀i∈x.ids,H i=H' i):delMap P H T k x=delMap P H' T k x:=by
 unfold delMap
 split<;>first|rfl|skip
 split<;>first|rfl|skip
 split<;>first|rfl|skip
 split<;>first|rfl|skip
 rename_i i _ _ _ _ _
 rw [h i (by simp [V.ids,V.idss])]
theorem updMap_congr (T:Nat) (k:V) {x m:V} (h:∀i∈m.ids,H i=H' i) (hx:∀i∈x.ids,H i=H' i):updMap P H T k x m=updMap P H' T k x m:=by
 unfold updMap
 rw [freeze_pure_congr _ hx,pureV_congr _ hx]
 split<;>first|rfl|skip
 split<;>first|rfl|skip
 split<;>first|rfl|skip
 split<;>first|rfl|skip
 rename_i i _ _ _ _ _
 rw [h i (by simp [V.ids,V.idss])]
theorem outOp_congr (g:Bool) (id:Nat) (ρ:Operand→V) (op:Op) (h:∀x∈op.operands.toList,∀i∈(ρ x).ids,H i=H' i):outOp P H g id ρ op=outOp P H' g id ρ op:=by
 cases op<;>simp only [outOp]<;>simp only [Op.operands] at h
 case buildSlice T n ps=>
  have hh:∀i∈V.idss ((ps.toList.map fun p=>(p.1,ρ p.2)).map (·.2)),H i=H' i:=fun i hi=>by
   obtain ⟨v,hv,hi⟩:=mem_idss_inv hi
   simp only [List.map_map,List.mem_map] at hv
   obtain ⟨p,hp,rfl⟩:=hv
   exact h p.2 (by simp;exact ⟨p.1,by simpa using hp⟩) i hi
  unfold buildSliceV buildOwnV
  rw [pureVs_congr _ hh,freeze_congr _ (fun i hi=>hh i (pureVs_fz _ i hi))]
 case load T x=>
  have hx:=h x (by simp)
  unfold loadV
  generalize ρ x=v at hx
  cases v<;>(try simp only [V.ids,List.mem_cons,List.not_mem_nil,or_false,forall_eq,false_implies,implies_true] at hx)<;>first|rfl|(simp only [hx])|(split<;>first|rfl|simp_all)
 case store T x y=>
  have hx:=h x (by simp)
  have hy:=h y (by simp)
  unfold storeV
  rw [freeze_pure_congr _ hy,pureV_congr _ hy]
  generalize ρ x=v at hx
  cases v<;>(try simp only [V.ids,List.mem_cons,List.not_mem_nil,or_false,forall_eq,false_implies,implies_true] at hx)<;>first|rfl|(simp only [hx])|(split<;>first|rfl|simp_all)
 case nilCheck x=>
  have hx:=h x (by simp)
  generalize ρ x=v at hx
  cases v<;>(try simp only [V.ids,List.mem_cons,List.not_mem_nil,or_false,forall_eq,false_implies,implies_true] at hx)<;>first|rfl|(simp only [hx])|(split<;>first|rfl|simp_all)
 case convert s d x=>
  have hx:=h x (by simp)
  unfold convertV
  generalize ρ x=v at hx
  have e:=seqOf_congr hx
  cases v<;>first|rfl|(simp only [e];done)|(simp only [e];rw [hx _ (by simp [V.ids])])
 case slice T x lo hi mx=>
  have hx:=h x (by simp)
  unfold sliceV
  generalize ρ x=v at hx
  have e:=seqOf_congr hx
  have e2:=freeze_pure_congr _ hx
  cases v
  case ptr i off p=>
   have hi:H i=H' i:=hx i (by simp [V.ids])
   simp only [sliceArr,frz,hi]
  case sl i len=>
   have hi:H i=H' i:=hx i (by simp [V.ids])
   simp only [sliceSl,hi]
  all_goals first|rfl|(simp only [e,e2])
 case fieldAddr T x k=>
  have hx:=h x (by simp)
  unfold fieldAddrV
  generalize ρ x=v at hx
  cases v<;>(try simp only [V.ids,List.mem_cons,List.not_mem_nil,or_false,forall_eq,false_implies,implies_true] at hx)<;>first|rfl|(simp only [hx])|(split<;>first|rfl|simp_all)
 case indexAddr T x i=>
  have hx:=h x (by simp)
  unfold indexAddrV
  generalize ρ x=v at hx
  cases v<;>(try simp only [V.ids,List.mem_cons,List.not_mem_nil,or_false,forall_eq,false_implies,implies_true] at hx)<;>first|rfl|(simp only [hx])|(split<;>first|rfl|simp_all)
 case call c=>
  obtain ⟨callee,args,tys⟩:=c
  cases callee<;>try rfl
  rename_i b
  simp only
  have hρ:∀v∈args.toList.map ρ,∀i∈v.ids,H i=H' i:=fun v hv i hi=>by
   obtain ⟨x,hx,rfl⟩:=List.mem_map.1 hv
   exact h x (by simp [Call.operands];simpa using hx) i hi
  generalize args.toList.map ρ=xs at hρ
  generalize tys.toList=ts
  cases b<;>try rfl
  case len=>
   match ts,xs,hρ with
   |[],_,_=>rfl
   |_::_,[],_=>rfl
   |T::_,x::_,hρ=>
    simp only [builtinV]
    unfold lenV
    have e:=seqOf_congr (hρ x (by simp))
    have em:=mapEs_congr (hρ x (by simp))
    cases x
    case own n l=>simp only;split<;>first|rfl|(simp only [em])
    all_goals first|rfl|(simp only [e];done)|(split<;>first|rfl|(simp only [seqOf]))
  case append=>
   match ts,xs,hρ with
   |[T,T2],[x,y],hρ=>
    simp only [builtinV]
    have hx:=hρ x (by simp)
    have hy:=hρ y (by simp)
    have e:appSrc P H T T2 y=appSrc P H' T T2 y:=by unfold appSrc;rw [seqOf_congr hy]
    cases lastI y with
    |true=>
     unfold appendFV
     rw [e]
     cases x<;>(try simp only [V.ids,List.mem_cons,List.not_mem_nil,or_false,forall_eq,false_implies,implies_true] at hx)<;>first|rfl|(rename_i c vs;cases c<;>rfl)|(simp only [hx])|(split<;>first|rfl|simp_all)
    |false=>
     unfold appendV
     rw [e]
     cases x<;>(try simp only [V.ids,List.mem_cons,List.not_mem_nil,or_false,forall_eq,false_implies,implies_true] at hx)<;>first|rfl|(rename_i c vs;cases c<;>rfl)|(simp only [hx])|(split<;>first|rfl|simp_all)
   |[],_,_=>rfl
   |[_],_,_=>rfl
   |_::_::_::_,_,_=>rfl
   |[_,_],[],_=>rfl
   |[_,_],[_],_=>rfl
   |[_,_],_::_::_::_,_=>rfl
  case copy=>
   match ts,xs,hρ with
   |[T,T2],[x,y],hρ=>
    simp only [builtinV]
    have hx:=hρ x (by simp)
    have hy:=hρ y (by simp)
    unfold copyV
    rw [seqOf_congr hy]
    cases x
    case own n l=>
     show copyView P H T y n l=copyView P H' T y n l
     unfold copyView
     split
     ·rename_i i len off a
      have hi:H i=H' i:=hx i (by simp [V.ids,V.idss])
      simp only [hi]
     ·rfl
    all_goals (try simp only [V.ids,List.mem_cons,List.not_mem_nil,or_false,forall_eq,false_implies,implies_true] at hx)
    all_goals first|rfl|(simp only [hx])|(split<;>first|rfl|simp_all)
   |[],_,_=>rfl
   |[_],_,_=>rfl
   |_::_::_::_,_,_=>rfl
   |[_,_],[],_=>rfl
   |[_,_],[_],_=>rfl
   |[_,_],_::_::_::_,_=>rfl
  case delete=>
   match ts,xs,hρ with
   |[T,T2],[x,y],hρ=>exact delMap_congr T y (hρ x (by simp))
   |[],_,_=>rfl
   |[_],_,_=>rfl
   |_::_::_::_,_,_=>rfl
   |[_,_],[],_=>rfl
   |[_,_],[_],_=>rfl
   |[_,_],_::_::_::_,_=>rfl
  all_goals (cases ts<;>rfl)
 case lookup T x k ok=>
  unfold lookupV
  rw [mapEs_congr (h x (by simp))]
 case mapUpdate T m k x=>exact updMap_congr T _ (h m (by simp)) (h x (by simp))
 case makeFunc fn first caps=>cases fn<;>rfl
variable {s s':Nat→Option V}
def rdB:Option Blk→List Nat
 |some ⟨none,_,t⟩=>t.ids
 |_=>[]
def rdV (H:Nat→Option Blk) (v:V):List Nat:=match v.ids with
 |[]=>[]
 |l=>l++l.flatMap fun c=>rdB (H c)
def isCallV:Op→Bool
 | .call { callee:=.value _,args:=_,argTypes:=_ }=>true
 |_=>false
def rdO (c:Bool) (H:Nat→Option Blk) (v:V):List Nat:=match c with
 |true=>rdV H v
 |false=>v.ids
def rids (s:Nat→Option V) (H:Nat→Option Blk) (o:Oper):List Nat:=o.op.operands.toList.flatMap fun x=>rdO (isCallV o.op) H (evO s x)
theorem evO_congr {x:Operand} (h:∀t,x=.tmp t→s t=s' t):evO s x=evO s' x∧(gok s x↔gok s' x):=by
 cases x<;>simp only [evO,gok,and_self,iff_self]
 rw [h _ rfl]
 simp
theorem goks_congr {l:List Operand} (h:∀t,.tmp t∈l→s t=s' t):goks s l↔goks s' l:=by
 unfold goks
 constructor
 ·exact fun hg x hx=>((evO_congr fun t e=>h t (e▸hx)).2).1 (hg x hx)
 ·exact fun hg x hx=>((evO_congr fun t e=>h t (e▸hx)).2).2 (hg x hx)
theorem outOp_congr_ρ (g:Bool) (id:Nat) {ρ ρ':Operand→V} (op:Op) (h:∀x∈op.operands.toList,ρ x=ρ' x):outOp P H g id ρ op=outOp P H g id ρ' op:=by
 have pairs:∀ps:Array (Nat×Operand),(∀x,x∈ps.toList.map (·.2)→ρ x=ρ' x)→(ps.toList.map fun p=>(p.1,ρ p.2))=(ps.toList.map fun p=>(p.1,ρ' p.2)):=fun ps hp=>
  List.map_congr_left fun p hm=>by rw [hp p.2 (List.mem_map.2 ⟨p,hm,rfl⟩)]
 cases op<;>simp only [outOp]<;>simp only [Op.operands] at h
 case build T ps=>rw [pairs ps fun x hx=>h x (by simpa using hx)]
 case buildSlice T n ps=>rw [pairs ps fun x hx=>h x (by simpa using hx)]
 case slice T x lo hi mx=>cases lo<;>cases hi<;>cases mx<;>simp_all
 case makeFunc fn first caps=>
  cases fn<;>try rfl
  have e:caps.toList.map ρ=caps.toList.map ρ':=List.map_congr_left fun x hx=>h x (by simp;right;simpa using hx)
  simp only [e]
 case call c=>
  obtain ⟨callee,args,tys⟩:=c
  cases callee<;>try rfl
  have e:args.toList.map ρ=args.toList.map ρ':=List.map_congr_left fun x hx=>h x (by simp [Call.operands];simpa using hx)
  simp only [e]
 all_goals (first|rfl|(simp_all;done))
theorem op_congr (E:Nat→List V→Prop→V→Prop) (g:Bool) (id:Nat) (op:Op) (hs:∀t,.tmp t∈op.operands.toList→s t=s' t) (hH:∀x∈op.operands.toList,∀i∈(evO s x).ids,H i=H' i) (p:Prop) (r:V):
  (opOk P E g id s H op p r↔opOk P E g id s' H' op p r)∧(opD E s H op p r↔opD E s' H' op p r)∧opV P g id s H op r=opV P g id s' H' op r∧opHw P g id s H op=opHw P g id s' H' op∧opLn P g id s H op=opLn P g id s' H' op:=by
 have hev:∀x∈op.operands.toList,evO s x=evO s' x∧(gok s x↔gok s' x):=fun x hx=>evO_congr fun t e=>hs t (e▸hx)
 have hout:outOp P H g id (evO s) op=outOp P H' g id (evO s') op:=by
  rw [outOp_congr g id (evO s) op hH]
  exact outOp_congr_ρ g id op fun x hx=>(hev x hx).1
 have hgo:goks s op.operands.toList↔goks s' op.operands.toList:=goks_congr hs
 cases op
 case call c=>
  obtain ⟨callee,args,tys⟩:=c
  cases callee with
  |value f=>
   have hf:=hev f (by simp [Op.operands,Call.operands])
   have ha:args.toList.map (evO s)=args.toList.map (evO s'):=List.map_congr_left fun x hx=>(hev x (by simp [Op.operands,Call.operands];right;simpa using hx)).1
   have hga:goks s args.toList↔goks s' args.toList:=goks_congr fun t ht=>hs t (by simp [Op.operands,Call.operands];right;simpa using ht)
   simp only [opOk,opD,opV,opHw,opLn]
   rw [←hf.1]
   cases hfn:fnOf (evO s f) with
   |none=>simp
   |some p=>
    obtain ⟨fid,caps⟩:=p
    simp only
    rw [←ha]
    have hids:∀i∈V.idss (args.toList.map (evO s)++caps),H i=H' i:=fun i hi=>by
     obtain ⟨v,hv,hi2⟩:=mem_idss_inv hi
     rcases List.mem_append.1 hv with hv|hv
     ·obtain ⟨x,hx,rfl⟩:=List.mem_map.1 hv
      exact hH x (by simp [Op.operands,Call.operands];right;simpa using hx) i hi2
     ·refine hH f (by simp [Op.operands,Call.operands]) i ?_
      cases hv2:evO s f<;>rw [hv2] at hfn<;>simp [fnOf] at hfn
      obtain ⟨rfl,rfl⟩:=hfn
      simp only [V.ids]
      exact mem_idss hv hi2
    rw [freeze_pures_congr _ hids,pureVs_congr _ hids]
    simp only [hf.2,hga,and_self,iff_self,implies_true,trivial]
  |_=>simp only [opOk,opD,opV,opHw,opLn,hout,hgo,and_self,iff_self]
 case pick c x y=>
  have hc:=hev c (by simp [Op.operands])
  have hx:=hev x (by simp [Op.operands])
  have hy:=hev y (by simp [Op.operands])
  simp only [opOk,opD,opV,opHw,opLn]
  rw [←hc.1,←hx.1,←hy.1]
  simp only [hc.2,hx.2,hy.2,and_self,iff_self]
 all_goals simp only [opOk,opD,opV,opHw,opLn,hout,hgo,and_self,iff_self]
end
open Go
section
variable {P:Program} {N:Nat} {U I0:Nat→Prop} {w0:Start} {s s':Nat→Option V} {H H':Nat→Option Blk} {A:Nat→Prop} {a:Act} {w:World} {I:Nat→Prop} {ι:Nat→Option Img} {ops:Array Oper} {id:Nat} {o:Oper} {E:Nat→List V→Prop→V→Prop}
theorem opW_mono {k k':V→List (Nat×Blk)→Prop→Prop} (h:opW P E N ops id s H o k) (hk:∀v hw ln,k v hw ln→k' v hw ln):opW P E N ops id s H o k':=by
 unfold opW at h ⊢
 obtain ⟨h1,h2⟩:=h
 refine ⟨h1, ?_⟩
 cases hg:o.guard with
 |none=>
  rw [hg] at h2
  rcases h2 with ⟨p',r,h0,h3,h4⟩|⟨v,hw,h3,h4⟩
  ·exact .inl ⟨p',r,h0,h3,hk _ _ _ h4⟩
  ·exact .inr ⟨v,hw,h3,hk _ _ _ h4⟩
 |some p=>
  obtain ⟨j,want⟩:=p
  rw [hg] at h2
  simp only at h2 ⊢
  cases hv:gval s ((ops[j]?).bind (·.dst)) with
  |none=>rw [hv] at h2;exact h2.elim
  |some cb=>
   rw [hv] at h2
   rcases h2 with ⟨p',r,h0,h3,h4⟩|⟨v,hw,h3,h5,h4⟩
   ·exact .inl ⟨p',r,h0,h3,hk _ _ _ h4⟩
   ·exact .inr ⟨v,hw,h3,h5,hk _ _ _ h4⟩
theorem opW_ex {k:V→List (Nat×Blk)→Prop→Prop} (h:opW P E N ops id s H o k):∃v hw ln,opW P E N ops id s H o (fun v' hw' ln'=>v'=v∧hw'=hw∧ln'=ln)∧k v hw ln:=by
 unfold opW at h ⊢
 obtain ⟨h1,h2⟩:=h
 cases hg:o.guard with
 |none=>
  rw [hg] at h2
  rcases h2 with ⟨p',r,h0,h3,h4⟩|⟨v,hw,h3,h4⟩
  ·exact ⟨_,_,_,⟨h1,.inl ⟨p',r,h0,h3,rfl,rfl,rfl⟩⟩,h4⟩
  ·exact ⟨_,_,_,⟨h1,.inr ⟨v,hw,h3,rfl,rfl,rfl⟩⟩,h4⟩
 |some p=>
  obtain ⟨j,want⟩:=p
  rw [hg] at h2
  simp only at h2 ⊢
  cases hv:gval s ((ops[j]?).bind (·.dst)) with
  |none=>rw [hv] at h2;exact h2.elim
  |some cb=>
   rw [hv] at h2
   rcases h2 with ⟨p',r,h0,h3,h4⟩|⟨v,hw,h3,h5,h4⟩
   ·exact ⟨_,_,_,⟨h1,.inl ⟨p',r,h0,h3,rfl,rfl,rfl⟩⟩,h4⟩
   ·exact ⟨_,_,_,⟨h1,.inr ⟨v,hw,h3,h5,rfl,rfl,rfl⟩⟩,h4⟩
mutual
theorem idsB_eq:∀v:V,v.idsB=v.ids
 | .agg vs=>by simp only [V.idsB,V.ids,idsBs_eq vs]
 | .tup vs=>by simp only [V.idsB,V.ids,idsBs_eq vs]
 | .fn f vs=>by simp only [V.idsB,V.ids,idsBs_eq vs]
 | .own e vs=>by simp only [V.idsB,V.ids,idsBs_eq vs]
 | .gd g v=>by simp only [V.idsB,V.ids,idsB_eq v]
 | .ptr ..| .eptr ..| .sl ..| .int ..| .bool ..| .str ..| .list ..| .nils| .dptr ..| .nilp| .nbox ..| .junk=>rfl
theorem idsBs_eq:∀l:List V,V.idsBs l=V.idss l
 |[]=>rfl
 |v::r=>by simp only [V.idsBs,V.idss,idsB_eq v,idsBs_eq r]
end
theorem rdV_iff {v:V} {j:Nat}:j∈rdV H v↔RId H v j:=by
 unfold rdV RId
 rw [idsB_eq]
 split
 ·rename_i e;simp [e]
 ·rename_i l _
  simp only [List.mem_append,List.mem_flatMap]
  refine or_congr Iff.rfl ⟨fun ⟨c,hc,hj⟩=>?_,fun ⟨c,hc,fz,t,e,hj⟩=>⟨c,hc,by rw [e];simpa [rdB,idsB_eq] using hj⟩⟩
  cases e:H c with
  |none=>rw [e] at hj;simp [rdB] at hj
  |some b=>
   obtain ⟨arr,fz,t⟩:=b
   rw [e] at hj
   cases arr with
   |none=>exact ⟨c,hc,fz,t,e,by simpa [rdB,idsB_eq] using hj⟩
   |some _=>simp [rdB] at hj
theorem HOp_congr {op:Op} {v:V} {hw:List (Nat×Blk)} (hs:∀t,.tmp t∈op.operands.toList→s t=s' t) (hH:∀x∈op.operands.toList,∀i∈rdV H (evO s x),H i=H' i) (h:HOp P s H id op v hw):HOp P s' H' id op v hw:=by
 obtain ⟨f,args,tys,rfl,hok⟩:=HOp_call h
 have hev:∀x∈(Op.call ⟨.value f,args,tys⟩).operands.toList,evO s x=evO s' x∧(gok s x↔gok s' x):=fun x hx=>evO_congr fun t e=>hs t (e▸hx)
 have hf:=hev f (by simp [Op.operands,Call.operands])
 have ha:∀x∈args.toList,evO s x=evO s' x∧(gok s x↔gok s' x):=fun x hx=>hev x (by simp [Op.operands,Call.operands];right;simpa using hx)
 have hHr:∀x∈args.toList,∀i,RId H (evO s x) i→H i=H' i:=fun x hx i hi=>hH x (by simp [Op.operands,Call.operands];right;simpa using hx) i (rdV_iff.2 hi)
 have hHa:∀x∈args.toList,∀i∈(evO s x).ids,H i=H' i:=fun x hx i hi=>hHr x hx i (.inl (by rw [idsB_eq];exact hi))
 obtain ⟨fid,hd,rest,hv,Hf,Hf',r,ρ,k1,k2,k3,k4,k5,k6,k7,k8,k9,k10,k11,k12⟩:=hok.go
 have hmr:∀x∈rest,x∈args.toList:=fun x hx=>by rw [k3];exact List.mem_append_right _ hx
 have hmh:∀x∈hd,x∈args.toList:=fun x hx=>by rw [k3];exact List.mem_append_left _ hx
 have e1:rest.map (evO s)=rest.map (evO s'):=List.map_congr_left fun x hx=>(ha x (hmr x hx)).1
 have e2:hd.map (evO s)=hd.map (evO s'):=List.map_congr_left fun x hx=>(ha x (hmh x hx)).1
 have hids:∀i∈V.idss (rest.map (evO s)),H i=H' i:=fun i hi=>by
  obtain ⟨u,hu,hi2⟩:=mem_idss_inv hi
  obtain ⟨x,hx,rfl⟩:=List.mem_map.1 hu
  exact hHa x (hmr x hx) i hi2
 have e3:pureVs H (rest.map (evO s))=pureVs H' (rest.map (evO s')):=by rw [←e1];exact pureVs_congr _ hids
 have e4:frz H (pureVs H (rest.map (evO s))).2.2=frz H' (pureVs H' (rest.map (evO s'))).2.2:=by rw [←e1];exact freeze_pures_congr _ hids
 refine ⟨fid,hd,rest,hv,Hf,Hf',r,ρ,by rw [←hf.1];exact k1,hf.2.1 k2,k3,fun x hx=>(ha x hx).2.1 (k4 x hx),by rw [←e3];exact k5,by rw [←e2];exact k6,k7, ?_,by rw [←e3];exact k9,k10,by rw [←e4];exact k11,fun i hi=>?_⟩
 ·rw [←e4]
  refine ⟨fun i b hb=>?_,k8.inj,k8.nu,k8.keepd,k8.ids,k8.ids',k8.idr⟩
  obtain ⟨g1,g2⟩:=k8.old i b hb
  refine ⟨?_,g2⟩
  obtain ⟨x,hx,hm⟩:=k12 i (by rw [hb];simp)
  have:H (ρ i)=H' (ρ i):=hHr x (hmh x hx) _ hm
  have eo:∀(G:Nat→Option Blk) (l:List (Nat×Blk)) c,over G l c=match look l c with|some b=>some b|none=>G c:=fun _ _ _=>rfl
  rw [eo] at g1 ⊢
  rw [←this]
  exact g1
 ·obtain ⟨x,hx,hm⟩:=k12 i hi
  refine ⟨x,hx, ?_⟩
  rw [←(ha x (hmh x hx)).1]
  rcases hm with hm|⟨c,hc,fz,t,e,hj⟩
  ·exact .inl hm
  ·exact .inr ⟨c,hc,fz,t,by rw [←hHr x (hmh x hx) c (.inl hc)];exact e,hj⟩
theorem looks_mem {o:Oper} {t:Tmp} (h:.tmp t∈o.op.operands.toList):t∈o.looksAt ops:=by
 unfold Oper.looksAt
 exact List.mem_append_left _ (List.mem_filterMap.2 ⟨.tmp t,h,rfl⟩)
theorem rdV_congr {v:V} (h:∀i∈rdV H v,H i=H' i):rdV H v=rdV H' v:=by
 unfold rdV at h ⊢
 generalize v.ids=l at h ⊢
 cases l with
 |nil=>rfl
 |cons a l=>
  simp only at h ⊢
  congr 1
  refine flatMap_congr' fun c hc=>?_
  rw [h c (List.mem_append_left _ hc)]
theorem rids_congr (hs:∀t∈o.looksAt ops,s t=s' t) (hH:∀i∈rids s H o,H i=H' i):rids s H o=rids s' H' o:=by
 unfold rids at hH ⊢
 refine flatMap_congr' fun x hx=>?_
 rw [←(evO_congr (s:=s) (s':=s') fun t e=>hs t (looks_mem (e▸hx))).1]
 have hh:∀i∈rdO (isCallV o.op) H (evO s x),H i=H' i:=fun i hi=>hH i (List.mem_flatMap.2 ⟨x,hx,hi⟩)
 cases hc:isCallV o.op with
 |true=>rw [hc] at hh;exact rdV_congr hh
 |false=>rfl
theorem opW_congr {k:V→List (Nat×Blk)→Prop→Prop} (hs:∀t∈o.looksAt ops,s t=s' t) (hH:∀i∈rids s H o,H i=H' i) (h:opW P E N ops id s H o k):opW P E N ops id s' H' o k:=by
 have hc:=fun g p r=>op_congr (P:=P) (H:=H) (H':=H') E g id o.op (s:=s) (s':=s') (fun t ht=>hs t (looks_mem ht)) (fun x hx i hi=>hH i (List.mem_flatMap.2 ⟨x,hx,by cases isCallV o.op;exact hi;exact rdV_iff.2 (.inl (by rw [idsB_eq];exact hi))⟩)) p r
 unfold opW at h ⊢
 obtain ⟨h1,h2⟩:=h
 refine ⟨h1, ?_⟩
 cases hg:o.guard with
 |none=>
  rw [hg] at h2
  rcases h2 with ⟨p',r,h0,h3,h4⟩|⟨v,hw,h3,h4⟩
  ·obtain ⟨c1,c0,c2,c3,c4⟩:=hc false p' r
   exact .inl ⟨p',r,c0.1 h0,c1.1 h3,by rw [←c2,←c3,←c4];exact h4⟩
  ·exact .inr ⟨v,hw,HOp_congr (fun t ht=>hs t (looks_mem ht)) (fun x hx i hi=>hH i (List.mem_flatMap.2 ⟨x,hx,by obtain ⟨_,_,_,e,_⟩:=HOp_call h3;rw [e];exact hi⟩)) h3,h4⟩
 |some p=>
  obtain ⟨j,want⟩:=p
  rw [hg] at h2
  simp only at h2 ⊢
  have hgv:gval s ((ops[j]?).bind (·.dst))=gval s' ((ops[j]?).bind (·.dst)):=by
   cases hd:(ops[j]?).bind (·.dst) with
   |none=>rfl
   |some t=>
    have:=hs t (by unfold Oper.looksAt;rw [hg];exact List.mem_append_right _ (by simp [hd]))
    simp only [gval,this]
  rw [←hgv]
  cases hv:gval s ((ops[j]?).bind (·.dst)) with
  |none=>rw [hv] at h2;exact h2.elim
  |some cb=>
   rw [hv] at h2
   rcases h2 with ⟨p',r,h0,h3,h4⟩|⟨v,hw,h3,h5,h4⟩
   ·obtain ⟨c1,c0,c2,c3,c4⟩:=hc true p' r
    exact .inl ⟨p',r,c0.1 h0,fun hh=>by rw [←c3];exact ⟨c1.1 (h3 hh).1,(h3 hh).2⟩,by rw [←c2,←c4];exact h4⟩
   ·exact .inr ⟨v,hw,fun hh=>HOp_congr (fun t ht=>hs t (looks_mem ht)) (fun x hx i hi=>hH i (List.mem_flatMap.2 ⟨x,hx,by obtain ⟨_,_,_,e,_⟩:=HOp_call (h3 hh);rw [e];exact hi⟩)) (h3 hh),h5,h4⟩
end
structure Rec where
 i:Nat
 ri:List Nat
 wi:List Nat
def noC (x y:Rec):Prop:=(∀i∈x.wi,i∉y.ri∧i∉y.wi)∧(∀i∈y.wi,i∉x.ri)
theorem noC_symm {x y:Rec} (h:noC x y):noC y x:=⟨fun i hi=>⟨h.2 i hi,fun hx=>(h.1 i hx).2 hi⟩,fun i hi=>(h.1 i hi).1⟩
def wids (hw:List (Nat×Blk)):List Nat:=hw.map (·.1)
def wpD (P:Program) (E:Nat→List V→Prop→V→Prop) (N:Nat) (ops:Array Oper) (prs:List (List Nat)) (base:Nat) (K:(Nat→Option V)→(Nat→Option Blk)→Prop):
  List (Nat×Oper)→(Nat→Option V)→(Nat→Option Blk)→List Rec→Prop→Prop
 |[],s,H,tr,L=>L→K s H
 |(i,o)::l,s,H,tr,L=>opW P E N ops (base+i) s H o fun v hw ln=>
   (∀r∈tr,noC r ⟨i,rids s H o,wids hw⟩∨r.i∈prs.getD i [])∧wpD P E N ops prs base K l (updS s o.dst v) (over H hw) (⟨i,rids s H o,wids hw⟩::tr) (L∧ln)
def drawOk (ops:Array Oper) (prs:List (List Nat)):Bool:=
 Region.noSelect ops&&(List.range ops.size).all fun i=>match ops[i]? with
  |some o=>(o.after.toList.all fun e=>!Region.binds .any e||decide (e.on<i))&&
    ((prs.getD i []).all fun x=>o.after.toList.any fun e=>Region.binds .any e&&(e.on==x||(prs.getD e.on []).contains x))&&
    ((List.range i).all fun x=>(prs.getD i []).contains x||match ops[x]? with
     |some ox=>ox.apart ops o
     |none=>true)
  |none=>true
section
variable {P:Program} {N:Nat} {U I0:Nat→Prop} {w0:Start} {s s':Nat→Option V} {H H':Nat→Option Blk} {A:Nat→Prop} {a:Act} {w:World} {I:Nat→Prop} {ι:Nat→Option Img} {ops:Array Oper} {prs:List (List Nat)} {base:Nat}
 {K:(Nat→Option V)→(Nat→Option Blk)→Prop} {E:Nat→List V→Prop→V→Prop}
theorem wpD_weaken:∀{l:List (Nat×Oper)} {s:Nat→Option V} {H:Nat→Option Blk} {tr tr':List Rec} {L L':Prop},(∀r∈tr',r∈tr)→(L'→L)→wpD P E N ops prs base K l s H tr L→wpD P E N ops prs base K l s H tr' L'
 |[],s,H,tr,tr',L,L',ht,hL,h=>fun l=>h (hL l)
 |(i,o)::l,s,H,tr,tr',L,L',ht,hL,h=>by
  refine opW_mono h fun v hw ln hk=>⟨fun r hr=>hk.1 r (ht r hr),wpD_weaken (fun r hr=>?_) (fun ⟨a,b⟩=>⟨hL a,b⟩) hk.2⟩
  rcases List.mem_cons.1 hr with rfl|hr
  ·exact List.mem_cons_self
  ·exact List.mem_cons_of_mem _ (ht r hr)
theorem over_notin {hw:List (Nat×Blk)} {i:Nat} (h:i∉wids hw):over H hw i=H i:=by
 induction hw with
 |nil=>rfl
 |cons p r ih=>
  obtain ⟨k,b⟩:=p
  simp only [wids,List.map_cons,List.mem_cons,not_or] at h
  rw [zG,zV _ _ h.1]
  exact ih h.2
theorem over_comm {hw hx:List (Nat×Blk)} (h:∀i∈wids hw,i∉wids hx):over (over H hw) hx=over (over H hx) hw:=by
 funext i
 by_cases h1:i∈wids hw
 ·rw [over_notin (h i h1)]
  have key:∀(G G':Nat→Option Blk) (l:List (Nat×Blk)),i∈wids l→over G l i=over G' l i:=by
   intro G G' l
   induction l with
   |nil=>intro h;simp [wids] at h
   |cons p r ih=>
    obtain ⟨k,b⟩:=p
    intro h
    rw [zG,zG]
    by_cases hk:i=k
    ·subst hk;rw [setO_same,setO_same]
    ·rw [zV _ _ hk,zV _ _ hk]
     simp only [wids,List.map_cons,List.mem_cons] at h
     exact ih (h.resolve_left hk)
  exact key _ _ _ h1
 ·rw [over_notin (H:=over H hx) h1]
  by_cases h2:i∈wids hx
  ·have key:∀(G G':Nat→Option Blk) (l:List (Nat×Blk)),i∈wids l→over G l i=over G' l i:=by
    intro G G' l
    induction l with
    |nil=>intro h;simp [wids] at h
    |cons p r ih=>
     obtain ⟨k,b⟩:=p
     intro h
     rw [zG,zG]
     by_cases hk:i=k
     ·subst hk;rw [setO_same,setO_same]
     ·rw [zV _ _ hk,zV _ _ hk]
      simp only [wids,List.map_cons,List.mem_cons] at h
      exact ih (h.resolve_left hk)
   exact key _ _ _ h2
  ·rw [over_notin h2,over_notin h2,over_notin h1]
theorem updS_ne {d:Option Tmp} {v:V} {t:Nat} (h:d≠some t):updS s d v t=s t:=by
 cases d with
 |none=>rfl
 |some x=>exact zV _ _ (fun e=>h (by rw [e]))
theorem updS_comm {d e:Option Tmp} {v u:V} (h:∀t,d=some t→e≠some t):updS (updS s d v) e u=updS (updS s e u) d v:=by
 cases d with
 |none=>rfl
 |some x=>
  cases e with
  |none=>rfl
  |some y=>
   have hne:x≠y:=fun e=>h x rfl (by rw [e])
   funext t
   simp only [updS]
   by_cases h1:t=x
   ·subst h1;rw [zV _ _ hne,setO_same,setO_same]
   ·by_cases h2:t=y
    ·subst h2;rw [setO_same,zV _ _ h1,setO_same]
    ·rw [zV _ _ h2,zV _ _ h1,zV _ _ h1,zV _ _ h2]
theorem wpD_bubble {i:Nat} {o:Oper} {b:List (Nat×Oper)}:∀(l:List (Nat×Oper)) (s:Nat→Option V) (H:Nat→Option Blk) (tr:List Rec) (L:Prop),wpD P E N ops prs base K (l++(i,o)::b) s H tr L→
  (∀x∈l,x.1∉prs.getD i []∧x.2.apart ops o=true)→opW P E N ops (base+i) s H o fun v hw ln=>
   (∀r∈tr,noC r ⟨i,rids s H o,wids hw⟩∨r.i∈prs.getD i [])∧wpD P E N ops prs base K (l++b) (updS s o.dst v) (over H hw) (⟨i,rids s H o,wids hw⟩::tr) (L∧ln)
 |[],s,H,tr,L,h,_=>h
 |(x,ox)::l,s,H,tr,L,h,hx=>by
  obtain ⟨hxp,hxa⟩:=hx (x,ox) List.mem_cons_self
  obtain ⟨ap1,ap2,ap3⟩:=Oper.apart_spec hxa
  obtain ⟨vx,hwx,lnx,e1,chkx,rest⟩:=opW_ex h
  have ih:=wpD_bubble l _ _ _ _ rest fun y hy=>hx y (List.mem_cons_of_mem _ hy)
  obtain ⟨v,hw,ln,e2,chki,rest2⟩:=opW_ex ih
  have hs1:∀t∈o.looksAt ops,updS s ox.dst vx t=s t:=fun t ht=>updS_ne fun e=>ap1 t e ht
  have hno0:noC ⟨x,rids s H ox,wids hwx⟩ ⟨i,rids (updS s ox.dst vx) (over H hwx) o,wids hw⟩:=(chki _ List.mem_cons_self).resolve_right hxp
  have hro:∀j∈rids (updS s ox.dst vx) (over H hwx) o,over H hwx j=H j:=fun j hj=>over_notin fun hc=>(hno0.1 j hc).1 hj
  have hr1:rids (updS s ox.dst vx) (over H hwx) o=rids s H o:=rids_congr hs1 hro
  rw [hr1] at chki rest2
  have hno:noC ⟨x,rids s H ox,wids hwx⟩ ⟨i,rids s H o,wids hw⟩:=(chki _ List.mem_cons_self).resolve_right hxp
  have e2':=opW_congr (s':=s) (H':=H) hs1 hro e2
  refine opW_mono e2' fun v' hw' ln' he=>?_
  obtain ⟨rfl,rfl,rfl⟩:=he
  refine ⟨fun r hr=>chki r (List.mem_cons_of_mem _ hr), ?_⟩
  have hs2:∀t∈ox.looksAt ops,s t=updS s o.dst v' t:=fun t ht=>(updS_ne fun e=>ap3 t e ht).symm
  have hro2:∀j∈rids s H ox,H j=over H hw' j:=fun j hj=>(over_notin fun hc=>hno.2 j hc hj).symm
  have hr2:rids (updS s o.dst v') (over H hw') ox=rids s H ox:=(rids_congr hs2 hro2).symm
  have e1':=opW_congr (s':=updS s o.dst v') (H':=over H hw') hs2 hro2 e1
  refine opW_mono e1' fun v2 hw2 ln2 he=>?_
  obtain ⟨rfl,rfl,rfl⟩:=he
  rw [hr2]
  refine ⟨fun r hr=>?_, ?_⟩
  ·rcases List.mem_cons.1 hr with rfl|hr
   ·exact .inl (noC_symm hno)
   ·exact chkx r hr
  ·rw [updS_comm ap2,over_comm (fun j hj=>(hno.1 j hj).2)] at rest2
   refine wpD_weaken (fun r hr=>?_) (fun ⟨⟨a,b⟩,c⟩=>⟨⟨a,c⟩,b⟩) rest2
   simp only [List.mem_cons] at hr ⊢
   rcases hr with h|h|h
   ·exact .inr (.inl h)
   ·exact .inl h
   ·exact .inr (.inr h)
structure Left (ops:Array Oper) (prs:List (List Nat)) (listed:Array Bool) (rem:List (Nat×Oper)):Prop where
 at_:∀p∈rem,ops[p.1]? =some p.2
 sorted:rem.Pairwise fun p q=>p.1<q.1
 un:∀j,j<ops.size→(listed.getD j true=false↔∃o,(j,o)∈rem)
 size:listed.size=ops.size
 closed:∀j,listed.getD j false=true→∀x∈prs.getD j [],listed.getD x false=true
theorem drawOk_edges (h:drawOk ops prs=true) {i:Nat} {o:Oper} (ho:ops[i]? =some o):(∀e∈o.after,Region.binds .any e=true→e.on<i)∧
  (∀x∈prs.getD i [],∃e∈o.after,Region.binds .any e=true∧(e.on=x∨x∈prs.getD e.on []))∧(∀x ox,x<i→ops[x]? =some ox→x∉prs.getD i []→ox.apart ops o=true):=by
 unfold drawOk at h
 rw [Bool.and_eq_true] at h
 have:=List.all_eq_true.1 h.2 i (List.mem_range.2 (Array.getElem?_eq_some_iff.1 ho).1)
 simp only [ho,Bool.and_eq_true] at this
 obtain ⟨⟨h1,h2⟩,h3⟩:=this
 refine ⟨fun e he hb=>?_,fun x hx=>?_,fun x ox hlt hox hn=>?_⟩
 ·have:=List.all_eq_true.1 h1 e (by simpa using he)
  simpa [hb] using this
 ·have:=List.all_eq_true.1 h2 x hx
  obtain ⟨e,he,hh⟩:=List.any_eq_true.1 this
  simp only [Bool.and_eq_true,Bool.or_eq_true,beq_iff_eq,List.contains_iff_mem] at hh
  exact ⟨e,by simpa using he,hh.1,hh.2⟩
 ·have:=List.all_eq_true.1 h3 x (List.mem_range.2 hlt)
  simp only [hox,Bool.or_eq_true,List.contains_iff_mem] at this
  exact this.resolve_left hn
theorem getD_bool {listed:Array Bool} {j:Nat} (hj:j<listed.size):listed.getD j true=listed.getD j false:=by
 simp [Array.getD_eq_getD_getElem?,hj]
theorem wpD_sound (hE:∀f args p r,E f args p r→p→CallP P f args r) {Q:Exit→Act→World→Prop} (hok:drawOk ops prs=true):
  ∀(fuel:Nat) (listed:Array Bool) (rem:List (Nat×Oper)) (s:Nat→Option V) (H:Nat→Option Blk) (tr:List Rec) (L:Prop) (A:Nat→Prop) (a:Act) (w:World) (I:Nat→Prop) (ι:Nat→Option Img),
   Left ops prs listed rem→rem.length≤fuel→L→Rel P N U I0 w0 s H A a w I ι→(∀p∈rem,A (base+p.1))→(∀i,base+ops.size≤i→A i)→wpD P E N ops prs base K rem s H tr L→
   (∀s H a w I ι,K s H→Rel P N U I0 w0 s H (base+ops.size≤·) a w I ι→Q .normal a w)→wpAny P .any ops Q fuel listed a w:=by
 intro fuel
 induction fuel with
 |zero=>
  intro listed rem s H tr L A a w I ι hl hlen hL hr hA hA' hk hQ
  have hrem:rem=[]:=List.length_eq_zero_iff.1 (by omega)
  subst hrem
  refine ⟨?_,hQ _ _ _ _ _ _ (hk hL) (hr.weakA hA')⟩
  apply List.eq_nil_iff_forall_not_mem.2
  intro j hj
  obtain ⟨h0,o,ho,_⟩:=mem_ready.1 hj
  obtain ⟨o',ho'⟩:=(hl.un j (Array.getElem?_eq_some_iff.1 ho).1).1 h0
  cases ho'
 |succ fuel ih=>
  intro listed rem s H tr L A a w I ι hl hlen hL hr hA hA' hk hQ
  refine ⟨fun hnil=>?_,fun i hi=>?_⟩
  ·cases rem with
   |nil=>exact hQ _ _ _ _ _ _ (hk hL) (hr.weakA hA')
   |cons p rest=>
    exfalso
    obtain ⟨i,o⟩:=p
    have ho:=hl.at_ (i,o) List.mem_cons_self
    have hlt:=(Array.getElem?_eq_some_iff.1 ho).1
    have hun:=(hl.un i hlt).2 ⟨o,List.mem_cons_self⟩
    have:i∈Region.ready .any ops listed:=mem_ready.2 ⟨hun,o,ho,fun e he hb=>by
     have hlt2:=(drawOk_edges hok ho).1 e he hb
     cases hc:listed.getD e.on false with
     |true=>rfl
     |false=>
      rw [←getD_bool (by rw [hl.size];omega)] at hc
      obtain ⟨o',ho'⟩:=(hl.un e.on (by omega)).1 hc
      rcases List.mem_cons.1 ho' with h|h
      ·cases h;omega
      ·have:=(List.pairwise_cons.1 hl.sorted).1 _ h
       simp only at this
       omega⟩
    rw [hnil] at this
    cases this
  ·obtain ⟨hun,o,ho,hall⟩:=mem_ready.1 hi
   have hlt:=(Array.getElem?_eq_some_iff.1 ho).1
   obtain ⟨o',ho'⟩:=(hl.un i hlt).1 hun
   have hoo:o'=o:=by have:=hl.at_ _ ho';rw [ho] at this;exact (Option.some.inj this).symm
   subst hoo
   obtain ⟨l1,l2,rfl⟩:=List.append_of_mem ho'
   obtain ⟨ed1,ed2,ed3⟩:=drawOk_edges hok ho
   have hprs:∀x∈prs.getD i [],listed.getD x false=true:=fun x hx=>by
    obtain ⟨e,he,hb,hor⟩:=ed2 x hx
    have hle:=hall e he hb
    rcases hor with rfl|h
    ·exact hle
    ·exact hl.closed _ hle x h
   have hfront:∀x∈l1,x.1∉prs.getD i []∧x.2.apart ops o'=true:=fun x hx=>by
    have hxa:=hl.at_ x (List.mem_append_left _ hx)
    have hxlt:=(Array.getElem?_eq_some_iff.1 hxa).1
    have hxu:=(hl.un x.1 hxlt).2 ⟨x.2,List.mem_append_left _ hx⟩
    have hn:x.1∉prs.getD i []:=fun hc=>by
     have:=hprs _ hc
     rw [getD_bool (by rw [hl.size];exact hxlt),this] at hxu
     cases hxu
    have hlt2:x.1<i:=(List.pairwise_append.1 hl.sorted).2.2 x hx (i,o') List.mem_cons_self
    exact ⟨hn,ed3 x.1 x.2 hlt2 hxa hn⟩
   have hb:=wpD_bubble l1 s H tr L hk hfront
   have hAi:A (base+i):=hA (i,o') (by simp)
   have hs:=opW_sound (Q:=Q) hE hr hAi hb (next:=wpAny P .any ops Q fuel (listed.setIfInBounds i true)) (fun v hw ln hk2 hln a' w' I' ι' h'=>by
    refine ih (listed.setIfInBounds i true) (l1++l2) _ _ _ _ _ a' w' I' ι' ⟨?_, ?_, ?_, ?_, ?_⟩ ?_ ⟨hL,hln⟩ h' ?_ ?_ hk2.2 hQ
    ·intro p hp
     refine hl.at_ p ?_
     rcases List.mem_append.1 hp with h|h
     ·exact List.mem_append_left _ h
     ·exact List.mem_append_right _ (List.mem_cons_of_mem _ h)
    ·refine hl.sorted.sublist ?_
     exact List.Sublist.append (List.Sublist.refl _) (List.sublist_cons_self _ _)
    ·intro j hj
     by_cases hji:i=j
     ·subst hji
      have:(listed.setIfInBounds i true).getD i true=true:=by simp [Array.getD_eq_getD_getElem?,Array.getElem?_setIfInBounds,hl.size,hlt]
      rw [this]
      refine ⟨fun h=>(by cases h),fun ⟨o2,h⟩=>?_⟩
      exfalso
      have hp:=List.pairwise_append.1 hl.sorted
      rcases List.mem_append.1 h with h|h
      ·have:=hp.2.2 (i,o2) h (i,o') List.mem_cons_self
       simp at this
      ·have:=(List.pairwise_cons.1 hp.2.1).1 _ h
       simp at this
     ·rw [getD_set_ne true hji,hl.un j hj]
      constructor
      ·rintro ⟨o2,h⟩
       refine ⟨o2, ?_⟩
       rcases List.mem_append.1 h with h|h
       ·exact List.mem_append_left _ h
       ·rcases List.mem_cons.1 h with h|h
        ·cases h;exact absurd rfl hji
        ·exact List.mem_append_right _ h
      ·rintro ⟨o2,h⟩
       refine ⟨o2, ?_⟩
       rcases List.mem_append.1 h with h|h
       ·exact List.mem_append_left _ h
       ·exact List.mem_append_right _ (List.mem_cons_of_mem _ h)
    ·simp [hl.size]
    ·intro j hj x hx
     by_cases hji:i=j
     ·subst hji;exact getD_set_true (hprs x hx)
     ·rw [getD_set_ne false hji] at hj
      exact getD_set_true (hl.closed j hj x hx)
    ·simp only [List.length_append,List.length_cons] at hlen ⊢
     omega
    ·intro p hp
     refine ⟨hA p ?_,fun e=>?_⟩
     ·rcases List.mem_append.1 hp with h|h
      ·exact List.mem_append_left _ h
      ·exact List.mem_append_right _ (List.mem_cons_of_mem _ h)
     ·have e:p.1=i:=by omega
      have hp2:=List.pairwise_append.1 hl.sorted
      rcases List.mem_append.1 hp with h|h
      ·have:=hp2.2.2 p h (i,o') List.mem_cons_self
       simp only at this;omega
      ·have:=(List.pairwise_cons.1 hp2.2.1).1 _ h
       simp only at this;omega
    ·intro j hj
     exact ⟨hA' j hj,by omega⟩)
   unfold wpOp
   rw [ho]
   simp only
   split
   ·rename_i hw;rw [if_pos hw] at hs;exact .inl hs
   ·rename_i hw;rw [if_neg hw] at hs;exact hs
variable {n:Nat}
theorem Rel.drawn (h:Rel P N U I0 w0 s H A a w I ι):Rel P N U I0 w0 s H A a { w with drawn:=w.drawn+1 } I ι:=by
 have hk:keep I w { w with drawn:=w.drawn+1 }:=fun _ _=>rfl
 have hm:=h.m
 refine ⟨⟨fun j bj hj=>(hm.heap _ _ hj).mono rfl (fun _ _ _ _=>rfl) hk (fun _ h=>h) HGo.refl rfl rfl,hm.inj,hm.img,hm.live,hm.bnd,hm.org,hm.new⟩,fun t v hv=>Slot.mono hk (fun _ h=>h) HGo.refl (h.sl t v hv),h.sz,h.df,h.fresh,h.kU,h.ini,h.siz,h.os,h.tape,h.output,h.ev,h.kI⟩
def enum (l:List Oper):List (Nat×Oper):=l.zipIdx.map fun p=>(p.2,p.1)
theorem tr_draw (hE:∀f args p r,E f args p r→p→CallP P f args r) {id:Nat} {ops:Array Oper} {K:Exit→Nat→(Nat→Option V)→(Nat→Option Blk)→Prop} (hmix:P.follows .mixedOrders=true) (prs:List (List Nat)) (hok:drawOk ops prs=true)
  (h:wpD P E N ops prs n (K .normal (n+ops.size)) (enum ops.toList) s H [] True):Tr P N (.region id ops true) n s H K:=by
 intro U I0 w0 a w I ι hr
 refine wp_region_any hmix ?_
 refine wpD_sound hE (A:=(n≤·)) hok ops.size _ (enum ops.toList) s H [] True a _ I ι ⟨?_, ?_, ?_,by simp, ?_⟩ (by simp [enum]) trivial hr.drawn (fun p _=>by omega) (fun i hi=>by omega) h
  (fun s H a w I ι k r=>⟨_,s,H,I,ι,k,r⟩)
 ·intro p hp
  simp only [enum,List.mem_map] at hp
  obtain ⟨q,hq,rfl⟩:=hp
  have:=List.mem_zipIdx hq
  simp only [Array.getElem?_eq_some_iff]
  exact ⟨by simpa using this.2.1,by simpa using this.2.2.symm⟩
 ·simp only [enum,List.pairwise_map]
  generalize ops.toList=l
  have key:∀(l:List Oper) (k:Nat),(l.zipIdx k).Pairwise fun p q=>p.2<q.2:=by
   intro l
   induction l with
   |nil=>intro k;simp
   |cons x r ih=>
    intro k
    rw [List.zipIdx_cons,List.pairwise_cons]
    refine ⟨fun q hq=>?_,ih _⟩
    have:=List.mem_zipIdx hq
    simp only;omega
  exact key l 0
 ·intro j hj
  have e:(Array.replicate ops.size false).getD j true=false:=by simp [Array.getD_eq_getD_getElem?,hj]
  rw [e]
  refine ⟨fun _=>⟨ops[j], ?_⟩,fun _=>rfl⟩
  simp only [enum,List.mem_map]
  refine ⟨(ops[j],j), ?_,rfl⟩
  rw [List.mem_zipIdx_iff_getElem?]
  simp [hj]
 ·intro j hj
  exfalso
  simp only [Array.getD_eq_getD_getElem?,Array.getElem?_replicate] at hj
  split at hj<;>cases hj
end
open Go
def resOut (P:Program) (s:Nat→Option V) (H:Nat→Option Blk):ResultVar→Out
 | .tmp t=>{ ok:=gok s (.tmp t),v:=evO s (.tmp t) }
 | .cell a T=>match evO s (.tmp a) with
  | .ptr id off p=>{ ok:=gok s (.tmp a)∧(loadV P H T (.ptr id off p)).ok,v:=(loadV P H T (.ptr id off p)).v }
  |_=>.no
def resOk (P:Program) (s:Nat→Option V) (H:Nat→Option Blk):List ResultVar→V→Prop
 |[x],r=>(resOut P s H x).ok∧(pureV H (resOut P s H x).v).ok∧r=(pureV H (resOut P s H x).v).v
 |xs,r=>(∀x∈xs,(resOut P s H x).ok)∧(pureVs H (xs.map fun x=>(resOut P s H x).v)).1∧r=.tup (pureVs H (xs.map fun x=>(resOut P s H x).v)).2.1
def retK (P:Program) (fn:Func) (r:V):Exit→Nat→(Nat→Option V)→(Nat→Option Blk)→Prop
 | .normal,_,s,H=>resOk P s H fn.results.toList r
 | .ret,_,s,H=>resOk P s H fn.results.toList r
 |_,_,_,_=>False
section
variable {P:Program} {N:Nat} {U I0:Nat→Prop} {w0:Start} {s s':Nat→Option V} {H H':Nat→Option Blk} {A:Nat→Prop} {a:Act} {w:World} {I:Nat→Prop} {ι:Nat→Option Img}
def resRun:ResultVar→Array Value→Sem Value
 | .tmp t,tmps=>pure (tmps.getD t undef)
 | .cell a t,tmps=>do loadVar t (←asAddr (tmps.getD a undef))
theorem run_mapM {α:Type} {f:α→Sem Value}:∀(l:List α) (vs:List Value),l.length=vs.length→(∀(i:Nat) (x:α) (v:Value),l[i]? =some x→vs[i]? =some v→(f x).run P w=.ok v w)→(l.mapM f).run P w=.ok vs w
 |[],[],_,_=>by simp
 |x::l,v::vs,hl,h=>by
  have h0:=h 0 x v rfl rfl
  have ih:=run_mapM (f:=f) l vs (by simpa using hl) fun i y u h1 h2=>h (i+1) y u (by simpa using h1) (by simpa using h2)
  simp [List.mapM_cons,h0,ih]
theorem res_one (h:Rel P N U I0 w0 s H A a w I ι) (x:ResultVar) (hok:(resOut P s H x).ok):∃cv,(resRun x a.tmps).run P w=.ok cv w∧Slot w I ι H (resOut P s H x).v cv:=by
 cases x with
 |tmp t=>exact ⟨_,rfl,h.eval (x:=.tmp t) hok⟩
 |cell t T=>
  simp only [resOut] at hok ⊢
  split at hok
  ·rename_i id off p he
   obtain ⟨h1,h2⟩:=hok
   have hs:=h.eval (x:=.tmp t) h1
   rw [he] at hs
   obtain ⟨_,cv,hr,_,hsl⟩:=run_loadV h.m T hs h2
   obtain ⟨b,cap,_,e⟩:=Rep.ptr_inv hs
   have e:a.eval (.tmp t)=.pointer (some ⟨b,off,none⟩):=by simpa using e
   have e:a.tmps.getD t undef=.pointer (some ⟨b,off,none⟩):=e
   refine ⟨cv, ?_,hsl⟩
   have hr:(Instr.loadAt T (a.tmps.getD t undef)).run P w=.ok cv w:=hr
   rw [e] at hr
   simp only [resRun,e,asAddr,Sem.run_bind,Sem.run_pure,Result.andThen_ok]
   simpa [Instr.loadAt,Instr.sureAddr] using hr
  ·exact hok.elim
theorem run_results {fn:Func} {vs:List Value} (hl:fn.results.toList.length=vs.length)
  (h:∀(i:Nat) (x:ResultVar) (v:Value),fn.results.toList[i]? =some x→vs[i]? =some v→(resRun x a.tmps).run P w=.ok v w):
  (results fn a.tmps).run P w=.ok (if h:vs.toArray.size=1 then vs.toArray[0] else .tuple vs.toArray) w:=by
 have hf:results fn a.tmps=(do let vs←fn.results.mapM (fun x=>resRun x a.tmps);pure (if h:vs.size=1 then vs[0] else .tuple vs)):=by
  unfold results
  congr 1
  congr 1
  funext x
  cases x<;>rfl
 rw [hf]
 simp only [Array.mapM_eq_mapM_toList,Sem.run_bind]
 have:=run_mapM (P:=P) (w:=w) (f:=fun x=>resRun x a.tmps) _ _ hl h
 simp [this]
theorem pslot_of {u:V} {cv:Value} {I1:Nat→Prop} (hs:Slot w I ι H u cv) (hok:(pureV H u).ok) (hi:Imm w I1 (pureV H u).v cv.cells.toList):PSlot w I1 (pureV H u).v cv:=by
 have hb:u.boxy=true:=by cases u<;>first|rfl|(simp [pureV] at hok)
 refine slot_of_rep (cs:=cv.cells.toList) (Rep.imm hi) ?_
 have:=slot_shape hb hs
 rw [pure_isAgg hok]
 split
 ·rename_i h;rw [if_pos h] at this;simpa using this
 ·rename_i h;rw [if_neg h] at this;exact this
theorem ret_sound {fn:Func} {r:V} (h:Rel P N U I0 w0 s H A a w I ι) (hr:resOk P s H fn.results.toList r):
  ∃cv I1,(results fn a.tmps).run P w=.ok cv w∧PSlot w I1 r cv∧(∀b,I b→I1 b)∧(∀b,I1 b→I0 b∨U b)∧(∀b,I1 b→b<w.heap.size):=by
 have hvals:∀(xs:List ResultVar),(∀x∈xs,(resOut P s H x).ok)→∃vs:List Value,xs.length=vs.length∧∀(i:Nat) (x:ResultVar) (v:Value),xs[i]? =some x→vs[i]? =some v→
   (resRun x a.tmps).run P w=.ok v w∧Slot w I ι H (resOut P s H x).v v:=by
  intro xs
  induction xs with
  |nil=>intro _;exact ⟨[],rfl,fun i x v h=>by simp at h⟩
  |cons x r ih=>
   intro hx
   obtain ⟨vs,h1,h2⟩:=ih fun y hy=>hx y (List.mem_cons_of_mem _ hy)
   obtain ⟨cv,h3,h4⟩:=res_one h x (hx x List.mem_cons_self)
   refine ⟨cv::vs,by simp [h1],fun i y v hy hv=>?_⟩
   cases i with
   |zero=>simp at hy hv;subst hy;subst hv;exact ⟨h3,h4⟩
   |succ i=>exact h2 i y v (by simpa using hy) (by simpa using hv)
 have hall:∀x∈fn.results.toList,(resOut P s H x).ok:=by
  intro x hx
  match hl:fn.results.toList,hr with
  |[],hr=>rw [hl] at hx;cases hx
  |[y],hr=>rw [hl] at hx;simp at hx;subst hx;exact hr.1
  |y::z::l,hr=>rw [hl] at hx;exact hr.1 x hx
 obtain ⟨vs,h1,h2⟩:=hvals _ hall
 have hrun:=run_results (P:=P) (w:=w) (a:=a) (fn:=fn) h1 (fun i x v hx hv=>(h2 i x v hx hv).1)
 refine ⟨if h:vs.toArray.size=1 then vs.toArray[0] else .tuple vs.toArray, ?_⟩
 match hl:fn.results.toList,hr with
 |[x],hr=>
  obtain ⟨r1,r2,rfl⟩:=hr
  rw [hl] at h1 h2
  match vs,h1 with
  |[cv],h1=>
   have hsl:=(h2 0 x cv rfl rfl).2
   obtain ⟨I1,a0,a1,a2,a3⟩:=freeze_all h.m (pureV H (resOut P s H x).v).fz
   have hb:(resOut P s H x).v.boxy=true:=by generalize (resOut P s H x).v=u at r2;cases u<;>first|rfl|(simp [pureV] at r2)
   have himm:=pure_rep h.m a3.sub a1 (resOut P s H x).v (fun i hi=>hi) (slot_cells hsl hb).1 r2
   exact ⟨I1,by simpa using hrun,by simpa using pslot_of hsl r2 himm,a3.sub,a2.org,a2.bnd⟩
 |[],hr=>
  obtain ⟨_,_,rfl⟩:=hr
  rw [hl] at h1
  have:vs=[]:=List.length_eq_zero_iff.1 (by simpa using h1.symm)
  subst this
  refine ⟨I,by simpa using hrun, ?_,fun _ h=>h,h.m.org,h.m.bnd⟩
  exact ⟨fun _=>undef,by simp [pureVs],fun i v hv=>by simp [pureVs] at hv⟩
 |y::z::l,hr=>
  obtain ⟨r1,r2,rfl⟩:=hr
  rw [hl] at h1 h2
  generalize hxs:y::z::l=xs at*
  have hlen:vs.length≠1:=by rw [←h1,←hxs];simp
  obtain ⟨I1,a0,a1,a2,a3⟩:=freeze_all h.m (pureVs H (xs.map fun x=>(resOut P s H x).v)).2.2
  refine ⟨I1,hrun, ?_,a3.sub,a2.org,a2.bnd⟩
  rw [dif_neg (by simpa using hlen)]
  have hpl:=pureVs_length (P:=P) (U:=U) (I0:=I0) (H:=H) (w:=w) (I:=I) (ι:=ι) (xs.map fun x=>(resOut P s H x).v)
  refine ⟨fun i=>vs.getD i undef, ?_,fun i v hv=>?_⟩
  ·congr 1
   apply congrArg
   apply List.ext_getElem
   ·simp [hpl,h1]
   ·intro i h3 h4
    have hv:i<vs.length:=by simpa using h3
    simp [List.getD,hv]
  ·have hlt:i<xs.length:=by
    have:=(List.getElem?_eq_some_iff.1 hv).1
    rw [hpl] at this;simpa using this
   have hvs:vs[i]? =some (vs.getD i undef):=by
    have:i<vs.length:=by omega
    simp [List.getD,this]
   have hx:xs[i]? =some xs[i]:=List.getElem?_eq_getElem hlt
   have hsl:=(h2 i _ _ hx hvs).2
   have hmap:(xs.map fun x=>(resOut P s H x).v)[i]? =some (resOut P s H xs[i]).v:=by simp [hlt]
   have hv2:=pureVs_get (H:=H) _ i _ hmap
   rw [hv] at hv2
   cases hv2
   have hok:=pureVs_ok r2 (resOut P s H xs[i]).v (List.mem_of_getElem? hmap)
   have himm:=pures_rep h.m a3.sub (l:=(pureVs H (xs.map fun x=>(resOut P s H x).v)).2.2) a1 (xs.map fun x=>(resOut P s H x).v) (fun i=>(vs.getD i undef).cells.toList) (fun j hj=>hj)
    (fun j u hu=>by
     rw [List.getElem?_map] at hu
     obtain ⟨x,hxj,rfl⟩:=Option.map_eq_some_iff.1 hu
     have hltj:j<vs.length:=by rw [←h1];exact (List.getElem?_eq_some_iff.1 hxj).1
     have hvj:vs[j]? =some (vs.getD j undef):=by simp [List.getD,hltj]
     exact (slot_cells (h2 j x _ hxj hvj).2 (pureVs_ok r2 _ (by
      have:(xs.map fun x=>(resOut P s H x).v)[j]? =some (resOut P s H x).v:=by rw [List.getElem?_map,hxj];rfl
      exact List.mem_of_getElem? this)).2).1)
    r2 i _ hv
   have:=pslot_of hsl hok.1 himm
   generalize (pureV H (resOut P s H xs[i]).v).v=u at this himm
   cases u<;>first|exact this|(exfalso;generalize (vs.getD i undef).cells.toList=cs at himm;cases himm;done)|skip
theorem callP_of_tr {f:Nat} {fn:Func} {c:Code} {args:List V} {r:V} (hf:P.funcs[f]? =some fn) (hb:fn.body=some c) (hname:(fn.name== "runtime.NumGoroutine")=false) (hN:args.length≤fn.ntmps)
  (h:Tr P fn.ntmps c 0 (fun t=>args[t]?) (fun _=>none) (retK P fn r)):CallP P f args r:=by
 refine ⟨fun args w=>?_,fun w I cargs hI hl hsl=>?_⟩
 ·have hn:¬fn.name= "runtime.NumGoroutine" :=by simpa using hname
  simp [callFunc,hf,hn,hb]
 ·refine calls_of_wp hf hb ?_
  have hrel:Rel P fn.ntmps (w.heap.size≤·) I ⟨w,fun _=>none,fun _=>none⟩ (fun t=>args[t]?) (fun _=>none) (0≤·) { tmps:=cargs.toArray++Array.replicate (fn.ntmps-cargs.toArray.size) undef,defers:=[] } w I (fun _=>none):=by
   refine ⟨⟨fun _ _ h=>(by cases h),fun _ _ _ _ _ h=>(by cases h),fun _ _ _ h=>(by cases h),fun _ _ _ _ h=>(by cases h),hI,fun b hb=>.inl hb,fun b hb=>hb⟩,fun t v hv=>?_,by simp;omega,rfl,fun _ _=>rfl,fun _ _=>rfl,fun _ h=>h,Nat.le_refl _,rfl,rfl,rfl,(fun _ _ _ h=>by cases h),fun _ _=>rfl⟩
   have hlt:t<cargs.length:=by rw [hl];exact (List.getElem?_eq_some_iff.1 hv).1
   have hc:cargs[t]? =some cargs[t]:=List.getElem?_eq_getElem hlt
   have:=hsl t v _ hv hc
   have e:(cargs.toArray++Array.replicate (fn.ntmps-cargs.toArray.size) undef).getD t undef=cargs[t]:=by
    simp [Array.getD_eq_getD_getElem?,Array.getElem?_append,hlt]
   show Slot w I _ _ v ((cargs.toArray++Array.replicate (fn.ntmps-cargs.toArray.size) undef).getD t undef)
   rw [e]
   exact this
  refine wp_mono (h _ _ _ _ _ _ _ hrel) fun e a' w' ⟨n',s',H',I',ι',hk,hr⟩=>?_
  have hpost:resOk P s' H' fn.results.toList r→a'.defers=[]∧∃v,(results fn a'.tmps).run P w'=.ok v w'∧∃cv I',Ending.returned v=.returned cv∧CallPost w w' I r cv I':=by
   intro hk
   obtain ⟨cv,I1,h1,h2,h3,h4,h5⟩:=ret_sound (fn:=fn) hr hk
   refine ⟨hr.df,cv,h1,cv,I1,rfl,h2,fun b hb=>hr.kU b (by omega),hr.siz,fun b hb=>h3 b (hr.ini b hb),fun b hb=>h4 b hb,h5,hr.os,hr.tape,hr.output⟩
  cases e<;>first|exact hpost hk|exact hk.elim
end
end GoL
