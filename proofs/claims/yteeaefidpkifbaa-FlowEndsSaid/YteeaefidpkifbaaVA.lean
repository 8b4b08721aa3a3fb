/- A part of the proof: a logic proved sound over the model; contracts; plain laws. -/
import Derived.Test.YteeaefidpkifbaaGE
set_option linter.all false
namespace GoL
open Go
def memN (i:Nat):List Nat→Bool
 |[]=>false
 |j::r=>match Nat.beq i j with
  |true=>true
  |false=>memN i r
mutual
def cvV (H:Nat→Option Blk) (ks:List Nat):V→Option (V×List (Nat×Nat))
 | .sl id len=>match memN id ks with
  |true=>some (.sl id len,[])
  |false=>match H id with
   |some ⟨some _,true,.agg rows⟩=>some (.list false rows,[(len,rows.length)])
   |_=>none
 | .agg vs=>match cvVs H ks vs with
  |some (ws,e)=>some (.agg ws,e)
  |none=>none
 | .int k n=>some (.int k n,[])
 | .bool b=>some (.bool b,[])
 | .str s=>some (.str s,[])
 | .list c vs=>some (.list c vs,[])
 | .nils=>some (.nils,[])
 |_=>none
def cvVs (H:Nat→Option Blk) (ks:List Nat):List V→Option (List V×List (Nat×Nat))
 |[]=>some ([],[])
 |v::r=>match cvV H ks v with
  |some (u,e)=>match cvVs H ks r with
   |some (ws,e')=>some (u::ws,e++e')
   |none=>none
  |none=>none
end
theorem cvVs_len {H:Nat→Option Blk} {ks:List Nat}:∀{vs ws:List V} {e:List (Nat×Nat)},cvVs H ks vs=some (ws,e)→ws.length=vs.length
 |[],ws,e,h=>by simp only [cvVs] at h;cases h;rfl
 |v::r,ws,e,h=>by
  simp only [cvVs] at h
  split at h
  ·split at h
   ·rename_i hr
    cases h
    simp [cvVs_len hr]
   ·cases h
  ·cases h
section
variable {P:Program} {U I0:Nat→Prop} {H:Nat→Option Blk} {w:World} {I:Nat→Prop} {ι:Nat→Option Img}
mutual
theorem cv_rep (hm:MRel P U I0 H w I ι) {ks:List Nat}:∀(v:V) {u:V} {e:List (Nat×Nat)} {cs:List Value},cvV H ks v=some (u,e)→eqsP e True→Rep w I ι H v cs→Rep w I ι H u cs
 | .sl id len,u,e,cs,h,he,hr=>by
  simp only [cvV] at h
  split at h
  ·cases h;exact hr
  ·split at h
   ·rename_i E rows hH
    cases h
    have hp:Imm w I (pureV H (.sl id len)).v cs:=pure_rep hm (l:=[id]) (fun _ h=>h) (fun i b m x hi hb hmi hx=>by
     have hi:i=id:=by simpa using hi
     subst hi
     rw [hH] at hb;cases hb
     exact (hm.live i _ m x hH hmi hx).1 rfl) _ (fun j hj=>by simpa [pureV,hH] using hj) hr (by simp only [pureV,hH];exact he.1)
    simp only [pureV,hH] at hp
    exact .imm hp
   ·cases h
 | .agg vs,u,e,cs,h,he,hr=>by
  simp only [cvV] at h
  split at h
  ·rename_i ws e' hw
   cases h
   obtain ⟨part,rfl,hp⟩:=hr.agg_inv
   rw [←cvVs_len hw]
   exact .agg (cvs_rep hm vs part hw he hp)
  ·cases h
 | .int ..,u,e,cs,h,he,hr| .bool ..,u,e,cs,h,he,hr| .str ..,u,e,cs,h,he,hr| .list ..,u,e,cs,h,he,hr| .nils,u,e,cs,h,he,hr=>by
  simp only [cvV] at h
  cases h;exact hr
 | .tup ..,u,e,cs,h,he,hr| .ptr ..,u,e,cs,h,he,hr| .eptr ..,u,e,cs,h,he,hr| .dptr ..,u,e,cs,h,he,hr| .nilp,u,e,cs,h,he,hr| .fn ..,u,e,cs,h,he,hr| .own ..,u,e,cs,h,he,hr| .nbox ..,u,e,cs,h,he,hr| .gd ..,u,e,cs,h,he,hr| .junk,u,e,cs,h,he,hr=>by
  simp only [cvV] at h
  cases h
theorem cvs_rep (hm:MRel P U I0 H w I ι) {ks:List Nat}:∀(vs:List V) (part:Nat→List Value) {ws:List V} {e:List (Nat×Nat)},cvVs H ks vs=some (ws,e)→eqsP e True→(∀i v,vs[i]? =some v→Rep w I ι H v (part i))→∀i v,ws[i]? =some v→Rep w I ι H v (part i)
 |[],part,ws,e,h,he,hr=>by
  simp only [cvVs] at h
  cases h
  intro i v hv;simp at hv
 |v::r,part,ws,e,h,he,hr=>by
  simp only [cvVs] at h
  split at h
  ·rename_i u e1 h1
   split at h
   ·rename_i us e2 h2
    cases h
    rw [eqsP_app,eqsP_and] at he
    intro i x hx
    cases i with
    |zero=>simp at hx;subst hx;exact cv_rep hm v h1 he.1 (hr 0 v rfl)
    |succ i=>exact cvs_rep hm r (fun i=>part (i+1)) h2 he.2 (fun i y hy=>hr (i+1) y (by simpa using hy)) i x (by simpa using hx)
   ·cases h
  ·cases h
end
end
def wFinC (P:Program) (hint:Option Nat) (rs:List ResultVar) (ids:List Nat) (Q:V→List Blk→Prop) (s:S) (H:Hp):Prop:=
 wRvs P (lkB s) (lkB H) hint rs fun vs=>match vs with
  |[v]=>match v with
   | .agg xs=>match cvVs (lkB H) ids xs with
    |some (ws,e)=>eqsP e (match proj H ids with
     |some ks=>Q (.agg ws) ks
     |none=>False)
    |none=>False
   |_=>False
  |_=>False
def finC (P:Program) (hint:Option Nat) (rs:List ResultVar) (ids:List Nat) (Q:V→List Blk→Prop):KK:=fun e n s H=>match e with
 | .normal=>wFinC P hint rs ids Q s H
 | .ret=>wFinC P hint rs ids Q s H
 |_=>False
section
variable {P:Program} {Sp:SpT} {N:Nat} {hints:Nat→Nat→Option Nat} {prs:Nat→List (List Nat)} {Ls:LsT} {w:World} {I:Nat→Prop} {ι:Nat→Option Img} {U I0:Nat→Prop} {w0:Start} {A:Nat→Prop} {a:Act}
theorem callHc_go (hSp:SpOk P Sp) {f:Nat} {fn:Func} {args:List V} {η:Hp} {ids:List Nat} {r:V} {ks:List Blk} {hint:Option Nat} (hf:P.funcs[f]? =some fn) (hn:fn.ntmps=N) (hb:(fn.body.isSome&&!(fn.name== "runtime.NumGoroutine")&&Nat.ble args.length N)=true)
  (hl:loopsOk (fun b c=>∀n s H K,Ls b n s H K→TL P N (.loop c) n s H K) 0 (zC fn))
  (h:wC P Sp N hints prs Ls 0 (zC fn) 1000 (zL args 0) η (finC P hint fn.results.toList ids fun v bs=>r=v∧ks=bs)):CallH P f args (lkB η) r (lkB (ids.zip ks)):=by
 simp only [Bool.and_eq_true,Bool.not_eq_true'] at hb
 obtain ⟨⟨h1,hname⟩,h3⟩:=hb
 obtain ⟨c,hc⟩:=Option.isSome_iff_exists.1 h1
 have e:zC fn=c:=by simp [zC,hc]
 rw [e] at h hl
 have hN:args.length≤fn.ntmps:=by rw [hn];exact Nat.le_of_ble_eq_true h3
 subst hn
 refine ⟨fun args w=>?_,fun w I ι cargs hm hfr hlen hsl=>?_⟩
 ·have hn:¬fn.name= "runtime.NumGoroutine" :=by simpa using hname
  simp [callFunc,hf,hn,hc]
 ·refine calls_of_wp hf hc ?_
  have hini:lkB (zL args 0)=fun t=>args[t]?:=by
   rw [initL_eq];funext t;rw [initS_get];simp
  have hrel:Rel P fn.ntmps (FootU w ι) I ⟨w,ι,lkB η⟩ (lkB (zL args 0)) (lkB η) (1000≤·) { tmps:=cargs.toArray++Array.replicate (fn.ntmps-cargs.toArray.size) undef,defers:=[] } w I ι:=by
   refine ⟨hm,fun t v hv=>?_,by simp;omega,rfl,hfr,fun _ _=>rfl,fun _ h=>h,Nat.le_refl _,rfl,rfl,rfl,fun id img _ h=>⟨img,h,fun _=>rfl,fun E fz rows e=>⟨E,fz,rows,e,Nat.le_refl _,fun _=>rfl⟩⟩,fun _ _=>rfl⟩
   rw [hini] at hv
   have hlt:t<cargs.length:=by rw [hlen];exact (List.getElem?_eq_some_iff.1 hv).1
   have hc:cargs[t]? =some cargs[t]:=List.getElem?_eq_getElem hlt
   have:=hsl t v _ hv hc
   have e:(cargs.toArray++Array.replicate (fn.ntmps-cargs.toArray.size) undef).getD t undef=cargs[t]:=by
    simp [Array.getD_eq_getD_getElem?,Array.getElem?_append,hlt]
   show Slot w I ι (lkB η) v ((cargs.toArray++Array.replicate (fn.ntmps-cargs.toArray.size) undef).getD t undef)
   rw [e]
   exact this
  refine wp_mono (wC_go hSp c 0 1000 _ _ _ hl h _ _ _ _ _ _ _ hrel) fun e a' w' ⟨n',s',H',I',ι',hk,hr⟩=>?_
  have hpost:wFinC P hint fn.results.toList ids (fun v bs=>r=v∧ks=bs) s' H'→a'.defers=[]∧∃v,(results fn a'.tmps).run P w'=.ok v w'∧∃cv I' ι',Ending.returned v=.returned cv∧HPost P w I ι (lkB η) r (lkB (ids.zip ks)) cv w' I' ι':=by
   intro hk
   obtain ⟨g1,g2⟩:=wRvs_go hk
   split at g2
   ·rename_i v hrs
    split at g2
    ·rename_i xs
     split at g2
     ·rename_i ws eqs hcv
      rw [eqsP_and] at g2
      obtain ⟨he,g3⟩:=g2
      split at g3
      ·rename_i bs hbs
       obtain ⟨rfl,rfl⟩:=g3
       obtain ⟨cv,k1,k2⟩:=retH_sound hr g1 (by intro v hv;rw [hrs] at hv;simp at hv;rw [hv];rfl)
       rw [hrs] at k2
       have hw:WeakF n' (lkB s') (lkB H') n' (lkB s') (lkB (ids.zip ks)):=⟨fun t v h=>⟨v,h,VEq.refl v⟩,fun i b h=>proj_zip hbs i b h,Nat.le_refl _,fun h=>absurd h (Nat.lt_irrefl _),fun h=>absurd h (Nat.lt_irrefl _),fun h=>absurd h (Nat.lt_irrefl _)⟩
       have hg:HGo ι' ι' (lkB H') (lkB (ids.zip ks)):=fun i m hi=>⟨m,hi,fun _=>rfl,fun E fz rows e=>⟨E,fz,rows,hw.hh _ _ e,Nat.le_refl _,fun _=>rfl⟩⟩
       have hkeep:keep I' w' w':=keep.refl w'
       have hm:=hr.m
       have k3:Slot w' I' ι' (lkB H') (.agg ws) cv:=by
        obtain ⟨cs,hcs,hrep⟩:=k2
        exact ⟨cs,hcs,cv_rep hm (ks:=ids) (u:=.agg ws) (e:=eqs) (.agg xs) (by simp only [cvV,hcv]) he hrep⟩
       refine ⟨hr.df,cv,k1,cv,I',ι',rfl,⟨Slot.mono hkeep (fun _ h=>h) hg k3,⟨fun i b hb=>(hm.heap i b (hw.hh i b hb)).mono rfl (fun _ _ _ _=>rfl) hkeep (fun _ h=>h) hg rfl rfl,hm.inj,hm.img,fun i b m c h1 h2=>hm.live i b m c (hw.hh i b h1) h2,hm.bnd,hm.org,hm.new⟩,hr.ev.step hg,hr.kU,hr.ini,hr.kI,hr.siz,hr.os,hr.tape,hr.output⟩⟩
      ·exact g3.elim
     ·exact g2.elim
    ·exact g2.elim
   ·exact g2.elim
  cases e<;>first|exact hpost hk|exact hk.elim
end
end GoL
