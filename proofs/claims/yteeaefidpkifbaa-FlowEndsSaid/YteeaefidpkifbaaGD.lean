/- A part of the proof: a logic proved sound over the model; contracts; plain laws. -/
import Derived.Test.YteeaefidpkifbaaGC
import Derived.OpenShut
import Derived.Below
import Derived.WalkKit
import Derived.ProofKit
import Derived.ShutString
import Derived.ChangeOld
import Derived.SizedLaws
set_option linter.all false
namespace GoL
open Go
def opG (P:Program) (E:Nat→List V→Prop→V→Prop) (N:Nat) (G:Nat→Option Tmp) (id:Nat) (s:Nat→Option V) (H:Nat→Option Blk) (o:Oper) (k:V→List (Nat×Blk)→Prop→Prop):Prop:=
 dstOk N o.dst∧match o.guard with
 |none=>(∃p r,opD E s H o.op p r∧opOk P E false id s H o.op p r∧k (opV P false id s H o.op r) (opHw P false id s H o.op) (opLn P false id s H o.op))∨
   ∃v hw,HOp P s H id o.op v hw∧k v hw True
 |some (j,want)=>match gval s (G j) with
  |some (c,b)=>(∃p r,opD E s H o.op p r∧((c&&(b==want))=true→opOk P E true id s H o.op p r∧opHw P true id s H o.op=[])∧
    k (.gd (c&&(b==want)) (opV P true id s H o.op r)) [] ((c&&(b==want))=true→opLn P true id s H o.op))∨
    ∃v hw,((c&&(b==want))=true→HOp P s H id o.op v hw)∧((c&&(b==want))=false→hw=[])∧k (.gd (c&&(b==want)) v) hw True
  |none=>False
def wpG (P:Program) (E:Nat→List V→Prop→V→Prop) (N:Nat) (G:Nat→Option Tmp) (K:Nat→(Nat→Option V)→(Nat→Option Blk)→Prop):List Oper→Nat→(Nat→Option V)→(Nat→Option Blk)→Prop
 |[],id,s,H=>K id s H
 |o::l,id,s,H=>(∃q,nilC P s o=some q∧q.1∧dstOk N o.dst∧∀b,q.2 b→wpG P E N G K l (id+1) (updS s o.dst (.bool b)) H)∨opG P E N G id s H o fun v hw ln=>ln→wpG P E N G K l (id+1) (updS s o.dst v) (over H hw)
def notIn (a:Nat):List Nat→Prop
 |[]=>True
 |b::l=>a≠b∧notIn a l
def isIn (a:Nat):List Nat→Prop
 |[]=>False
 |b::l=>a=b∨isIn a l
def disj:List Nat→List Nat→Prop
 |[],_=>True
 |a::l,m=>notIn a m∧disj l m
def chk (R:List Nat) (i:Nat) (ri wi:List Nat):List Rec→Prop
 |[]=>True
 |r::l=>((disj r.wi ri∧disj r.wi wi∧disj wi r.ri)∨isIn r.i R)∧chk R i ri wi l
theorem notIn_iff {a:Nat}:∀{l:List Nat},notIn a l↔a∉l
 |[]=>by simp [notIn]
 |b::l=>by simp [notIn,notIn_iff (l:=l)]
theorem isIn_iff {a:Nat}:∀{l:List Nat},isIn a l↔a∈l
 |[]=>by simp [isIn]
 |b::l=>by simp [isIn,isIn_iff (l:=l)]
theorem disj_iff:∀{l m:List Nat},disj l m↔∀i∈l,i∉m
 |[],m=>by simp [disj]
 |a::l,m=>by simp [disj,disj_iff (l:=l),notIn_iff]
theorem chk_iff {R:List Nat} {i:Nat} {ri wi:List Nat}:∀{tr:List Rec},chk R i ri wi tr↔∀r∈tr,noC r ⟨i,ri,wi⟩∨r.i∈R
 |[]=>by simp [chk]
 |r::l=>by
  simp only [chk,chk_iff (tr:=l),disj_iff,isIn_iff,noC,List.forall_mem_cons]
  constructor
  ·rintro ⟨h1,h2⟩
   exact ⟨h1.imp (fun ⟨a,b,c⟩=>⟨fun i hi=>⟨a i hi,b i hi⟩,c⟩) (fun h=>h),h2⟩
  ·rintro ⟨h1,h2⟩
   exact ⟨h1.imp (fun ⟨a,c⟩=>⟨fun i hi=>(a i hi).1,fun i hi=>(a i hi).2,c⟩) (fun h=>h),h2⟩
def wpDG (P:Program) (E:Nat→List V→Prop→V→Prop) (N:Nat) (G:Nat→Option Tmp) (R:Nat→List Nat) (K:Nat→(Nat→Option V)→(Nat→Option Blk)→Prop):
  List Oper→Nat→Nat→(Nat→Option V)→(Nat→Option Blk)→List Rec→Prop→Prop
 |[],i,id,s,H,tr,L=>L→K id s H
 |o::l,i,id,s,H,tr,L=>opG P E N G id s H o fun v hw ln=>
   chk (R i) i (rids s H o) (wids hw) tr∧wpDG P E N G R K l (i+1) (id+1) (updS s o.dst v) (over H hw) (⟨i,rids s H o,wids hw⟩::tr) (L∧ln)
section
variable {P:Program} {N:Nat} {s:Nat→Option V} {H:Nat→Option Blk} {n:Nat} {K:Exit→Nat→(Nat→Option V)→(Nat→Option Blk)→Prop} {E:Nat→List V→Prop→V→Prop}
theorem wpG_eq {ops:Array Oper} {K:Nat→(Nat→Option V)→(Nat→Option Blk)→Prop}:∀(l:List Oper) (id:Nat) (s:Nat→Option V) (H:Nat→Option Blk),
  wpG P E N (fun j=>(ops[j]?).bind (·.dst)) K l id s H=wpL P E N ops K l id s H
 |[],_,_,_=>rfl
 |o::l,id,s,H=>by
  simp only [wpG,wpL,wpG_eq l]
  rfl
theorem wpDG_eq {ops:Array Oper} {prs:List (List Nat)} {base:Nat} {K:(Nat→Option V)→(Nat→Option Blk)→Prop}:∀(l:List Oper) (i:Nat) (s:Nat→Option V) (H:Nat→Option Blk) (tr:List Rec) (L:Prop),
  wpDG P E N (fun j=>(ops[j]?).bind (·.dst)) (fun i=>prs.getD i []) (fun _=>K) l i (base+i) s H tr L=wpD P E N ops prs base K ((l.zipIdx i).map fun p=>(p.2,p.1)) s H tr L
 |[],_,_,_,_,_=>rfl
 |o::l,i,s,H,tr,L=>by
  have e:base+i+1=base+(i+1):=by omega
  simp only [wpDG,wpD,List.zipIdx_cons,List.map_cons,e,wpDG_eq l,chk_iff]
  rfl
theorem t_region {C:Code} {id:Nat} {ops:Array Oper} {l:List Oper} (hE:∀f args p r,E f args p r→p→CallP P f args r) (hC:C=.region id ops false) (hl:ops.toList=l)
  (h:∀G:Nat→Option Tmp,(∀j,G j=(ops[j]?).bind (·.dst))→wpG P E N G (K .normal) l n s H):Tr P N C n s H K:=by
 subst hC
 subst hl
 refine tr_region hE ?_
 rw [←wpG_eq]
 exact h _ fun _=>rfl
theorem t_draw {C:Code} {id:Nat} {ops:Array Oper} {l:List Oper} (prs:List (List Nat)) (hE:∀f args p r,E f args p r→p→CallP P f args r) (hmix:P.follows .mixedOrders=true) (hC:C=.region id ops true) (hl:ops.toList=l)
  (hok:drawOk ops prs=true) (h:∀(G:Nat→Option Tmp) (R:Nat→List Nat),(∀j,G j=(ops[j]?).bind (·.dst))→(∀i,R i=prs.getD i [])→wpDG P E N G R (fun _=>K .normal (n+ops.size)) l 0 n s H [] True):Tr P N C n s H K:=by
 subst hC
 subst hl
 refine tr_draw hE hmix prs hok ?_
 have:=h _ _ (fun _=>rfl) (fun _=>rfl)
 have e:=wpDG_eq (P:=P) (E:=E) (N:=N) (ops:=ops) (prs:=prs) (base:=n) (K:=K .normal (n+ops.size)) ops.toList 0 s H [] True
 rw [Nat.add_zero] at e
 rw [e] at this
 exact this
def initS:List V→Nat→Nat→Option V
 |[],_=>fun _=>none
 |v::l,k=>updS (initS l (k+1)) (some k) v
theorem initS_get:∀(l:List V) (k t:Nat),initS l k t=if t<k then none else l[t-k]?
 |[],k,t=>by simp [initS]
 |v::l,k,t=>by
  simp only [initS,updS,setO]
  by_cases h:t=k
  ·subst h;simp
  ·rw [if_neg h,initS_get l (k+1) t]
   by_cases h1:t<k
   ·rw [if_pos (by omega),if_pos h1]
   ·rw [if_neg (by omega),if_neg h1]
    obtain ⟨m,rfl⟩:=Nat.exists_eq_add_of_lt (show k<t by omega)
    simp [show k+m+1-k=m+1 by omega]
theorem call_of {f:Nat} {fn:Func} {c:Code} {args:List V} {r:V} (hf:P.funcs[f]? =some fn) (hb:fn.body=some c) (hname:(fn.name== "runtime.NumGoroutine")=false) (hN:(args.length≤fn.ntmps))
  (hn:fn.ntmps=N) (h:Tr P N c 0 (initS args 0) (fun _=>none) (retK P fn r)):CallP P f args r:=by
 subst hn
 refine callP_of_tr hf hb hname hN ?_
 have e:initS args 0=fun t=>args[t]?:=by funext t;rw [initS_get];simp
 rwa [e] at h
section
variable {g:Bool} {id:Nat} {p:Prop} {r:V}
theorem all_cons {p:Rec→Prop} {x:Rec} {l:List Rec}:(∀r∈x::l,p r)=(p x∧∀r∈l,p r):=by simp
end
end
open Go
inductive Typed (P:Program) (M:Nat):Nat→V→Prop
 |int {T:Nat} {k:IntKind} {n:Int} (ht:P.underlying T=some (.int k)) (hn:k.min≤n∧n≤k.max):Typed P M T (.int k n)
 |bool {T:Nat} {b:Bool} (ht:P.underlying T=some .bool):Typed P M T (.bool b)
 |str {T:Nat} {s:List UInt8} (ht:P.underlying T=some .string) (hs:s.length≤M):Typed P M T (.str s)
 |list {T E:Nat} {vs:List V} (ht:P.underlying T=some (.slice E)) (hl:vs.length*P.bytesOf E≤M) (hv:∀v∈vs,Typed P M E v):Typed P M T (.list false vs)
 |struct {T:Nat} {fs:Array Field} {vs:List V} (ht:P.underlying T=some (.struct fs)) (hl:vs.length=fs.size) (hv:∀(i:Nat) (f:Field) (v:V),fs[i]? =some f→vs[i]? =some v→Typed P M f.type v):Typed P M T (.agg vs)
 |array {T n E:Nat} {vs:List V} (ht:P.underlying T=some (.array n E)) (hl:vs.length=n) (hv:∀v∈vs,Typed P M E v):Typed P M T (.agg vs)
def offsOk (P:Program):List Field→Nat→Nat→Bool
 |[],o,tot=>o==tot
 |f::r,o,tot=>f.offset==o&&offsOk P r (o+P.cellsOf f.type) tot
def closedT (P:Program) (ts:List Nat):Bool:=ts.all fun t=>match P.underlying t with
 |some (.int _)|some .bool|some .string=>true
 |some (.slice e)=>ts.contains e&&decide (0<P.cellsOf e)
 |some (.struct fs)=>(fs.toList.all fun f=>ts.contains f.type)&&offsOk P fs.toList 0 (P.cellsOf t)
 |some (.array n e)=>ts.contains e&&(P.cellsOf t==n*P.cellsOf e)
 |_=>false
theorem list_of_exists {α:Type} {Q:Nat→α→Prop}:∀(n:Nat),(∀i,i<n→∃v,Q i v)→∃vs:List α,vs.length=n∧∀(i:Nat) (v:α),vs[i]? =some v→Q i v
 |0,_=>⟨[],rfl,fun i v h=>by simp at h⟩
 |n+1,h=>by
  obtain ⟨vs,h1,h2⟩:=list_of_exists n fun i hi=>h i (by omega)
  obtain ⟨v,hv⟩:=h n (by omega)
  refine ⟨vs++[v],by simp [h1],fun i u hu=>?_⟩
  by_cases hi:i<vs.length
  ·rw [List.getElem?_append_left hi] at hu;exact h2 i u hu
  ·rw [List.getElem?_append_right (by omega)] at hu
   have:i-vs.length=0:=by
    have:=(List.getElem?_eq_some_iff.1 hu).1
    simp at this;omega
   rw [this] at hu
   simp at hu
   subst hu
   have:i=n:=by omega
   rw [this];exact hv
section
variable {P:Program} {w:World} {H:Type} {enc:TypeId×Value→H} {base:Nat} {spare:Nat→Bool} {held:Bool}
def partOf (P:Program) (cs:List Value) (fs:List Field) (i:Nat):List Value:=match fs[i]? with
 |some f=>(cs.drop f.offset).take (P.cellsOf f.type)
 |none=>[]
theorem partOf_some {cs:List Value} {fs:List Field} {i:Nat} {f:Field} (h:fs[i]? =some f):partOf P cs fs i=(cs.drop f.offset).take (P.cellsOf f.type):=by simp [partOf,h]
theorem parts_join (cs:List Value):∀(fs:List Field) (o:Nat),offsOk P fs o cs.length=true→o≤cs.length→
  (List.range fs.length).flatMap (partOf P cs fs)=cs.drop o
 |[],o,h,ho=>by
  simp only [offsOk,beq_iff_eq] at h
  simp [h]
 |f::r,o,h,ho=>by
  simp only [offsOk,Bool.and_eq_true,beq_iff_eq] at h
  obtain ⟨h1,h2⟩:=h
  rw [List.length_cons,List.range_succ_eq_map,List.flatMap_cons,List.flatMap_map]
  have e0:partOf P cs (f::r) 0=(cs.drop f.offset).take (P.cellsOf f.type):=partOf_some rfl
  have e1:(fun i=>partOf P cs (f::r) (Nat.succ i))=partOf P cs r:=by funext i;simp [partOf]
  rw [e0,e1]
  have hle:o+P.cellsOf f.type≤cs.length:=by
   have:∀(r:List Field) (o:Nat),offsOk P r o cs.length=true→o≤cs.length:=by
    intro r
    induction r with
    |nil=>intro o h;simp only [offsOk,beq_iff_eq] at h;omega
    |cons f r ih=>
     intro o h
     simp only [offsOk,Bool.and_eq_true] at h
     have:=ih _ h.2
     omega
   exact this r _ h2
  rw [parts_join cs r (o+P.cellsOf f.type) h2 hle,h1,←List.drop_drop]
  exact List.take_append_drop _ _
theorem weightsAll_mem {E:TypeId} {M:Nat}:∀{ds:List (DataW H)} {d:DataW H},(DataW.weightsAll P E ds).all (·≤M)=true→d∈ds→(d.weights P E).all (·≤M)=true
 |[],d,_,h=>by cases h
 |x::r,d,hw,h=>by
  simp only [DataW.weightsAll,List.all_append,Bool.and_eq_true] at hw
  rcases List.mem_cons.1 h with rfl|h
  ·exact hw.1
  ·exact weightsAll_mem hw.2 h
theorem weightsEach_get {M:Nat}:∀{ts:List TypeId} {ds:List (DataW H)} {i:Nat} {t:TypeId} {d:DataW H},(DataW.weightsEach P ts ds).all (·≤M)=true→ts[i]? =some t→ds[i]? =some d→(d.weights P t).all (·≤M)=true
 |[],_,i,t,d,_,h,_=>by simp at h
 |_::_,[],i,t,d,_,_,h=>by simp at h
 |t0::ts,d0::ds,i,t,d,hw,h1,h2=>by
  simp only [DataW.weightsEach,List.all_append,Bool.and_eq_true] at hw
  cases i with
  |zero=>simp at h1 h2;subst h1;subst h2;exact hw.1
  |succ i=>exact weightsEach_get hw.2 (by simpa using h1) (by simpa using h2)
theorem cells_at {a:Addr} {n:Nat} {cs:List Value} (h:w.cells? base a n=some cs) (hn:0<n) (o:Nat) (ha:a=⟨a.block,o,none⟩):a.block<w.heap.size∧cs.length=n∧cellsAt w a.block o cs:=by
 unfold World.cells? at h
 split at h
 ·rename_i hb
  have hl:=mapM_some_length h
  have hg:=mapM_some_get h
  simp only [List.length_range] at hl
  have hc:∀j,j<n→w.cell? (a.add j)=cs[j]?:=fun j hj=>hg j j (by simp [hj])
  have hadd:∀j,a.add j=⟨a.block,o+j,none⟩:=fun j=>by rw [ha];exact addr_add _ _ _
  refine ⟨?_,hl,fun j c hj=>?_⟩
  ·have h0:=hc 0 hn
   have:cs[0]?≠none:=by rw [List.getElem?_eq_getElem (by omega)];simp
   rw [←h0,hadd] at this
   simp only [World.cell?] at this
   rcases Nat.lt_or_ge a.block w.heap.size with h|h
   ·exact h
   ·rw [Array.getElem?_eq_none h] at this;exact absurd rfl this
  ·have hjl:=(List.getElem?_eq_some_iff.1 hj).1
   rw [←hadd,hc j (by omega)]
   exact hj
 ·cases h
theorem cells_spot {a:Addr} {n:Nat} {cs:List Value} (h:w.cells? base a n=some cs) (hn:0<n):a.spot=none:=by
 unfold World.cells? at h
 split at h
 ·have hl:=mapM_some_length h
  have hg:=mapM_some_get h
  simp only [List.length_range] at hl
  have h0:=hg 0 0 (by simp [hn])
  have e:a.add 0=a:=by simp [Addr.add]
  rw [e,List.getElem?_eq_getElem (by omega)] at h0
  unfold World.cell? at h0
  split at h0
  ·split at h0
   ·cases h0
   ·rename_i h;simpa using h
  ·cases h0
 ·cases h
theorem trod_typed {ts:List Nat} (hcl:closedT P ts=true):∀(fuel:Nat) (t:TypeId) (cs:List Value) (x:DataW H×List MemPlace),t∈ts→DataW.trod enc P w base spare held fuel t cs=some x→
  (x.1.weights P t).all (·≤reachBytes)=true→∃v,Imm w (·<w.heap.size) v cs∧Typed P reachBytes t v:=by
 intro fuel
 induction fuel with
 |zero=>intro t cs x _ h;simp [DataW.trod] at h
 |succ fuel ih=>
  intro t cs x ht h hw
  have hc:=List.all_eq_true.1 hcl t ht
  cases hu:P.underlying t with
  |none=>rw [hu] at hc;cases hc
  |some d=>
   rw [hu] at hc
   cases d<;>try (cases hc;done)
   case bool=>
    obtain ⟨b,rfl,rfl⟩:=DataW.trod_bool hu h
    exact ⟨.bool b,.bool,.bool hu⟩
   case int k=>
    obtain ⟨n,rfl,rfl,hwf⟩:=DataW.trod_int hu h
    exact ⟨.int k n,.int,.int hu (by simpa [Lit.wf] using hwf)⟩
   case string=>
    obtain ⟨s,rfl,rfl,hs⟩:=DataW.trod_string hu h
    have e:(⟨s.data.toList.toArray⟩:ByteArray)=s:=by apply ByteArray.ext;simp
    refine ⟨.str s.data.toList, ?_,.str hu ?_⟩
    ·have:=Imm.str (w:=w) (I:=(·<w.heap.size)) (s:=s.data.toList) (by simpa [lenMax,maxLen] using hs)
     rwa [e] at this
    ·simpa [DataW.weights] using hw
   case slice e=>
    simp only [Bool.and_eq_true,List.contains_iff_mem,decide_eq_true_eq] at hc
    rcases DataW.trod_slice hu h with ⟨rfl,rfl⟩|⟨a,len,cap,elems,rest,n,hn,rfl,rfl,hb,hlc,hcm,hel,hget,_,_⟩
    ·exact ⟨.list false [],imm_nils,.list hu (by simp) (by simp)⟩
    ·have hn:n=fuel:=by omega
     subst hn
     have hwt:elems.length*P.bytesOf e≤reachBytes∧(DataW.weightsAll P e (elems.map (·.1))).all (·≤reachBytes)=true:=by
      simp only [DataW.weights,hu,List.all_cons,List.all_append,Bool.and_eq_true,decide_eq_true_eq,List.length_map] at hw
      exact ⟨Nat.le_trans (Nat.mul_le_mul_right _ (by omega)) hw.1,hw.2.1⟩
     have hex:∀i,i<len→∃p:V×List Value,w.cells? base (a.add (i*P.cellsOf e)) (P.cellsOf e)=some p.2∧Imm w (·<w.heap.size) p.1 p.2∧Typed P reachBytes e p.1:=by
      intro i hi
      have hg:=hget i hi
      rw [List.getElem?_eq_getElem (by omega)] at hg
      obtain ⟨cs,h1,h2⟩:=Option.bind_eq_some_iff.1 hg
      obtain ⟨v,h3,h4⟩:=ih e cs _ hc.1 h2 (weightsAll_mem hwt.2 (List.mem_map.2 ⟨elems[i],List.getElem_mem _,rfl⟩))
      exact ⟨(v,cs),h1,h3,h4⟩
     obtain ⟨l,hl,hp⟩:=list_of_exists len hex
     have hlen:(l.map (·.1)).length=len:=by simp [hl]
     refine ⟨.list false (l.map (·.1)), ?_,.list hu (by rw [hlen,←hel];exact hwt.1) fun v hv=>?_⟩
     ·rw [←hlen]
      refine .list (sz:=P.cellsOf e) (part:=fun i=>((l[i]?).map (·.2)).getD []) (by rw [hlen];exact hlc) (by simpa [lenMax,maxLen] using hcm) (fun h=>by cases h) (fun hne=>?_) (fun i hi=>?_) (fun i v hv=>?_)
      ·have hlpos:0<len:=by rw [←hlen];exact List.length_pos_iff.2 hne
       obtain ⟨p0,hp0⟩:∃p,l[0]? =some p:=⟨_,List.getElem?_eq_getElem (by omega)⟩
       have hsp:=cells_spot (hp 0 p0 hp0).1 hc.2
       simp [Addr.add] at hsp
       have ha:a=⟨a.block,a.off,none⟩:=by cases a;simp at hsp;simp [hsp]
       have h00:=cells_at (o:=a.off) (by simpa [Addr.add] using (hp 0 p0 hp0).1) hc.2 ha
       refine ⟨a,rfl,hsp,h00.1,fun i hi=>?_⟩
       rw [hlen] at hi
       obtain ⟨p,hpi⟩:∃p,l[i]? =some p:=⟨_,List.getElem?_eq_getElem (by omega)⟩
       have hcell:=(hp i p hpi).1
       have hadd:a.add (i*P.cellsOf e)=⟨a.block,a.off+i*P.cellsOf e,none⟩:=by
        conv=>lhs;rw [ha]
        exact addr_add _ _ _
       rw [hadd] at hcell
       have:=cells_at (o:=a.off+i*P.cellsOf e) hcell hc.2 rfl
       simp only [hpi,Option.map_some,Option.getD_some]
       exact this.2.2
      ·rw [hlen] at hi
       obtain ⟨p,hpi⟩:∃p,l[i]? =some p:=⟨_,List.getElem?_eq_getElem (by omega)⟩
       have hcell:=(hp i p hpi).1
       simp only [hpi,Option.map_some,Option.getD_some]
       unfold World.cells? at hcell
       split at hcell
       ·have:=mapM_some_length hcell;simpa using this
       ·cases hcell
      ·rw [List.getElem?_map] at hv
       obtain ⟨p,hpi,rfl⟩:=Option.map_eq_some_iff.1 hv
       simp only [hpi,Option.map_some,Option.getD_some]
       exact (hp i p hpi).2.1
     ·obtain ⟨p,hpm,rfl⟩:=List.mem_map.1 hv
      obtain ⟨i,hi⟩:=List.getElem?_of_mem hpm
      exact (hp i p hi).2.2
   case struct fs=>
    simp only [Bool.and_eq_true,List.all_eq_true,List.contains_iff_mem] at hc
    obtain ⟨xs,n,hn,rfl,hlen,hxl,hget⟩:=DataW.trod_struct hu h
    have hn:n=fuel:=by omega
    subst hn
    simp only [DataW.weights,hu] at hw
    have hex:∀i,i<fs.size→∃v:V,∀f,fs[i]? =some f→Imm w (·<w.heap.size) v ((cs.drop f.offset).take (P.cellsOf f.type))∧Typed P reachBytes f.type v:=by
     intro i hi
     have hf:fs[i]? =some fs[i]:=Array.getElem?_eq_getElem hi
     have hg:=hget i _ hf
     rw [List.getElem?_eq_getElem (by omega)] at hg
     obtain ⟨v,h3,h4⟩:=ih _ _ _ (hc.1 fs[i] (by simp)) hg (weightsEach_get (i:=i) hw (by simp [hi]) (by simp [show i<xs.length by omega]))
     exact ⟨v,fun f e=>by rw [hf] at e;cases e;exact ⟨h3,h4⟩⟩
    obtain ⟨vs,hl,hp⟩:=list_of_exists fs.size hex
    refine ⟨.agg vs, ?_,.struct hu hl fun i f v hf hv=>(hp i v hv f hf).2⟩
    have hj:=parts_join (P:=P) cs fs.toList 0 (by rw [hlen];exact hc.2) (Nat.zero_le _)
    rw [List.drop_zero] at hj
    have himm:Imm w (·<w.heap.size) (.agg vs) ((List.range vs.length).flatMap (partOf P cs fs.toList)):=by
     refine .agg fun i v hv=>?_
     have hlt:i<fs.size:=by rw [←hl];exact (List.getElem?_eq_some_iff.1 hv).1
     have hf:fs[i]? =some fs[i]:=Array.getElem?_eq_getElem hlt
     have hf':fs.toList[i]? =some fs[i]:=by simpa using hf
     rw [partOf_some hf']
     exact (hp i v hv _ hf).1
    rw [hl,←Array.length_toList (xs:=fs),hj] at himm
    exact himm
   case array n e=>
    simp only [Bool.and_eq_true,List.contains_iff_mem,beq_iff_eq] at hc
    obtain ⟨xs,m,hm,rfl,hlen,hxl,hget⟩:=DataW.trod_array hu h
    have hm:m=fuel:=by omega
    subst hm
    simp only [DataW.weights,hu] at hw
    have hex:∀i,i<n→∃v:V,Imm w (·<w.heap.size) v ((cs.drop (i*P.cellsOf e)).take (P.cellsOf e))∧Typed P reachBytes e v:=by
     intro i hi
     have hg:=hget i hi
     rw [List.getElem?_eq_getElem (by omega)] at hg
     exact ih _ _ _ hc.1 hg (weightsAll_mem hw (List.mem_map.2 ⟨xs[i],List.getElem_mem _,rfl⟩))
    obtain ⟨vs,hl,hp⟩:=list_of_exists n hex
    refine ⟨.agg vs, ?_,.array hu hl fun v hv=>?_⟩
    ·have himm:Imm w (·<w.heap.size) (.agg vs) ((List.range vs.length).flatMap fun i=>(cs.drop (i*P.cellsOf e)).take (P.cellsOf e)):=.agg fun i v hv=>(hp i v hv).1
     have key:∀(n z:Nat) (cs:List Value),cs.length=n*z→((List.range n).flatMap fun i=>(cs.drop (i*z)).take z)=cs:=by
      intro n z
      induction n with
      |zero=>intro cs h;simp at h;simp [h]
      |succ n ihn=>
       intro cs h
       rw [List.range_succ_eq_map,List.flatMap_cons,List.flatMap_map]
       have h1:(cs.drop z).length=n*z:=by rw [List.length_drop,h,Nat.succ_mul];omega
       have:=ihn (cs.drop z) h1
       simp only [List.drop_drop] at this
       have e:((List.range n).flatMap fun i=>(cs.drop ((i+1)*z)).take z)=cs.drop z:=by
        rw [←this]
        exact flatMap_congr' fun i _=>by rw [Nat.succ_mul,Nat.add_comm]
       show (cs.drop (0*z)).take z++_=_
       simp only [Nat.succ_eq_add_one]
       rw [e,Nat.zero_mul,List.drop_zero]
       exact List.take_append_drop _ _
     rw [hl,key n _ cs (by rw [hlen,hc.2])] at himm
     exact himm
    ·obtain ⟨i,hi⟩:=List.getElem?_of_mem hv
     exact (hp i v hi).2
variable {M T:Nat} {v:V}
theorem Typed.int_inv {k:IntKind} (ht:P.underlying T=some (.int k)) (h:Typed P M T v):∃n,v=.int k n∧k.min≤n∧n≤k.max:=by
 cases h<;>rename_i h1<;>rw [ht] at h1<;>cases h1
 exact ⟨_,rfl,by assumption⟩
theorem Typed.bool_inv (ht:P.underlying T=some .bool) (h:Typed P M T v):∃b,v=.bool b:=by
 cases h<;>rename_i h1<;>rw [ht] at h1<;>cases h1
 exact ⟨_,rfl⟩
theorem Typed.str_inv (ht:P.underlying T=some .string) (h:Typed P M T v):∃s,v=.str s∧s.length≤M:=by
 cases h<;>rename_i h1<;>rw [ht] at h1<;>cases h1
 exact ⟨_,rfl,by assumption⟩
theorem Typed.list_inv {E:Nat} (ht:P.underlying T=some (.slice E)) (h:Typed P M T v):∃vs,v=.list false vs∧vs.length*P.bytesOf E≤M∧∀x∈vs,Typed P M E x:=by
 cases h with
 |list h1 h2 h3=>rw [ht] at h1;cases h1;exact ⟨_,rfl,h2,h3⟩
 |int h1 _|bool h1|str h1 _|struct h1 _ _|array h1 _ _=>rw [ht] at h1;cases h1
end
open Go Go.ChangeShapes Go.WideShapes Go.ChangeAt Go.RowKit
section
variable {P:Program} {w:World} {H:Type} {enc:TypeId×Value→H}
theorem arg_slot {r:Reach} {b0 t:Nat} {v:Value} {tree:V} {M:Nat} (ht:Typed P M t tree) (hv:Value.okWide P w r b0 t v) (hi:Imm w (·<w.heap.size) tree v.cells.toList):PSlot w (·<w.heap.size) tree v:=by
 refine slot_of_rep (cs:=v.cells.toList) (Rep.imm hi) ?_
 cases ht with
 |int h _=>obtain ⟨n,rfl⟩:=okWide_int h hv;rfl
 |bool h=>obtain ⟨n,rfl⟩:=okWide_bool h hv;rfl
 |str h _=>obtain ⟨n,rfl⟩:=okWide_string h hv;rfl
 |list h _ _=>obtain ⟨a,l,c,rfl⟩:=okWide_slice h hv;rfl
 |struct h _ _=>
  simp only [Value.okWide,h] at hv
  obtain ⟨cs,rfl,_⟩:=hv
  simp [V.isAgg,Value.cells]
 |array h _ _=>
  simp only [Value.okWide,h] at hv
  obtain ⟨cs,rfl,_⟩:=hv
  simp [V.isAgg,Value.cells]
theorem args_open {ts:List Nat} (hcl:closedT P ts=true) {r:Reach} {b0:Nat}:∀(params:List TypeId) (vs:List Value) (ds:List (DataW H)) (ps:List MemPlace),DataW.TrodAll enc P w 0 (fun _=>true) true params vs ds ps→
  (∀t∈params,t∈ts)→(∀(j:Nat) t v,params[j]? =some t→vs[j]? =some v→Value.okWide P w r b0 t v)→(DataW.weightsEach P params ds).all (·≤reachBytes)=true→
  ∃trees:List V,trees.length=params.length∧vs.length=params.length∧(∀(i:Nat) (u:V) (c:Value),trees[i]? =some u→vs[i]? =some c→PSlot w (·<w.heap.size) u c)∧
   (∀(i:Nat) (t:TypeId) (u:V),params[i]? =some t→trees[i]? =some u→Typed P reachBytes t u)
 |[],vs,ds,ps,h,_,_,_=>by
  obtain ⟨rfl,rfl,rfl⟩:=trodAll_nil h
  exact ⟨[],rfl,rfl,fun i u c h=>by simp at h,fun i t u h=>by simp at h⟩
 |t::params,vs,ds,ps,h,hts,hok,hw=>by
  obtain ⟨v,vs',d,ds',p,q,rfl,rfl,rfl,h1,h2⟩:=trodAll_cons h
  simp only [DataW.weightsEach,List.all_append,Bool.and_eq_true] at hw
  obtain ⟨trees,e1,e2,e3,e4⟩:=args_open hcl params vs' ds' q h2 (fun t ht=>hts t (List.mem_cons_of_mem _ ht)) (fun j t v a b=>hok (j+1) t v (by simpa using a) (by simpa using b)) hw.2
  obtain ⟨fuel,hf⟩:=h1
  obtain ⟨tree,hi,ht⟩:=trod_typed hcl fuel t v.cells.toList _ (hts t List.mem_cons_self) hf hw.1
  refine ⟨tree::trees,by simp [e1],by simp [e2],fun i u c hu hc=>?_,fun i t' u ht' hu=>?_⟩
  ·cases i with
   |zero=>simp at hu hc;subst hu;subst hc;exact arg_slot ht (hok 0 t v rfl rfl) hi
   |succ i=>exact e3 i u c (by simpa using hu) (by simpa using hc)
  ·cases i with
   |zero=>simp at ht' hu;subst hu;subst ht';exact ht
   |succ i=>exact e4 i t' u (by simpa using ht') (by simpa using hu)
theorem args_back (hl:laidOutB P=true) {w':World} (hb:Below w.heap.size w w'):∀(params:List TypeId) (vs:List Value) (ds:List (DataW H)) (ps:List MemPlace),DataW.TrodAll enc P w 0 (fun _=>true) true params vs ds ps→
  (∀t∈params,P.readableRec t=true∧t<P.types.size)→DataW.TrodAll enc P w' 0 (fun b=>decide (b<w.heap.size)) true params vs ds ps
 |[],vs,ds,ps,h,_=>by
  obtain ⟨rfl,rfl,rfl⟩:=trodAll_nil h
  exact h
 |t::params,vs,ds,ps,h,ht=>by
  obtain ⟨v,vs',d,ds',p,q,rfl,rfl,rfl,h1,h2⟩:=trodAll_cons h
  have hlt:∀x∈p,x.block<w.heap.size:=by obtain ⟨m,hm⟩:=h1;exact DataW.trod_lt m _ _ _ hm
  exact ⟨p,q,Below.trod hl (ht t List.mem_cons_self).1 (ht t List.mem_cons_self).2 h1 hb hlt,args_back hl hb params vs' ds' q h2 (fun t h=>ht t (List.mem_cons_of_mem _ h)),rfl⟩
theorem law_lifted {C:Checked} {os:Os} {f:FuncId} {fn:Func} {s:ChangeSpec} {conds:List PathCond} (own:ownKnob C.prog.godebug=none) (started:os.Started) (noInit:C.prog.inits.idxOf? f=none) (hfn:C.prog.funcs[f]? =some fn)
  (witness:∃(w:World) (tape:Tape) (i:Input),w.os=os∧(w.forCall tape i).Shaped C.prog∧i.vars=[]∧Input.okWide C.prog (w.forCall tape i) .any w.heap.size f i∧
   s.pre6 enc C.prog fn conds false (w.forCall tape i).memory i.args∧Assume.holds {} C.prog (lone (Frame.enter C.prog f i.args .normal) [] (w.forCall tape i)))
  (ts:List Nat) (hcl:closedT C.prog ts=true) (hps:(fn.params.toList.all fun t=>ts.contains t&&C.prog.readableRec t&&decide (t<C.prog.types.size))=true) {tb:TypeId} (hres:fn.resultTypes=#[tb]) (htb:C.prog.underlying tb=some .bool)
  (hvars:s.vars=[]) (hspec:∀(ds:List (DataW H)),ds.length=fn.params.size→s.fn H ds={ results:=[.lit (.bool true)],args:=ds }) (laid:laidOutB C.prog=true)
  (hcall:∀trees:List V,trees.length=fn.params.size→(∀(i:Nat) (t:TypeId) (u:V),fn.params[i]? =some t→trees[i]? =some u→Typed C.prog reachBytes t u)→CallP C.prog f trees (.bool true)):
  ReturnsInHanded {} C os f .any (s.pre6 enc C.prog fn conds false) (s.post enc C.prog fn false true false false):=by
 refine returnsInHanded_of_change_sized own started noInit hfn witness ?_
 intro W base args ds gs before hval hW _ hsz _
 have hW':=hW
 obtain ⟨p,q,hA,hV,rfl,hfz,hnd⟩:=hW
 rw [hvars] at hV
 obtain ⟨rfl,rfl⟩:=trodVars_none hV
 have hpl:∀t∈fn.params.toList,t∈ts∧C.prog.readableRec t=true∧t<C.prog.types.size:=fun t ht=>by
  have:=List.all_eq_true.1 hps t ht
  simp only [Bool.and_eq_true,List.contains_iff_mem,decide_eq_true_eq] at this
  exact ⟨this.1.1,this.1.2,this.2⟩
 have hsz':(DataW.weightsEach C.prog fn.params.toList ds).all (·≤reachBytes)=true:=by
  have hv:s.plain.varTypes C.prog=[]:=by simp [DataSpec.varTypes,ChangeSpec.plain,hvars]
  rw [hv,List.append_nil,List.append_nil] at hsz
  exact hsz
 obtain ⟨trees,e1,e2,e3,e4⟩:=args_open hcl fn.params.toList args.toList ds p hA (fun t ht=>(hpl t ht).1) (fun j t v a b=>hval j t v (by simpa using a) (by simpa using b)) hsz'
 have hds:ds.length=fn.params.size:=by
  have key:∀(params:List TypeId) (vs:List Value) (ds:List (DataW H)) (ps:List MemPlace),DataW.TrodAll enc C.prog W 0 (fun _=>true) true params vs ds ps→ds.length=params.length:=by
   intro params
   induction params with
   |nil=>intro vs ds ps h;obtain ⟨rfl,rfl,rfl⟩:=trodAll_nil h;rfl
   |cons t r ih=>
    intro vs ds ps h
    obtain ⟨v,vs',d,ds',p,q,rfl,rfl,rfl,h1,h2⟩:=trodAll_cons h
    simp [ih _ _ _ h2]
  simpa using key _ _ _ _ hA
 have hc:=hcall trees (by simpa using e1) (fun i t u a b=>e4 i t u (by simpa using a) b)
 have:=hc.2 W (·<W.heap.size) args.toList (fun b h=>h) (by rw [e2,e1]) e3
 refine Calls.mono this fun e W' he=>?_
 obtain ⟨cv,I',rfl,hp⟩:=he
 have hcv:cv=.bool true:=Slot.bool_inv hp.slot
 subst hcv
 have bel:Below W.heap.size W W':=⟨hp.os,hp.tape,hp.output,hp.siz,hp.old⟩
 refine ⟨_,rfl,ds,[],p++[],[],p,[],hW', ?_, ?_, ?_,bel.frame _,fun h=>by cases h⟩
 ·rw [hres,List.append_nil,hspec ds hds]
  exact trodAll_mk1 (shut_bool htb _)
 ·rw [List.append_nil,hspec ds hds]
  exact args_back laid bel _ _ _ _ hA fun t ht=>(hpl t ht).2
 ·rw [List.append_nil,hspec ds hds,hvars]
  rfl
end
open Go
theorem structEq_of {P:Program} {T:Nat} {f0 f1:Field} (hu:P.underlying T=some (.struct #[f0,f1])) (hp:P.stoodInHeld T=false) (hn0:(f0.name== "_")=false) (hn1:(f1.name== "_")=false)
  (h0:P.underlying f0.type=some (.int .i64)) (h1:P.underlying f1.type=some (.int .i64)) (o0:f0.offset=0) (o1:f1.offset=1) (hg:P.eqGuardType P.depth T=false):StructEq P T:=by
 refine ⟨fun w x0 x1 y0 y1=>?_⟩
 refine ⟨?_,hg⟩
 have a0:(Go.isAgg f0.type).run P w=.ok false w:=run_agg (by simp [aggT,h0,isAggD])
 have a1:(Go.isAgg f1.type).run P w=.ok false w:=run_agg (by simp [aggT,h1,isAggD])
 have e0:∀d,(Op.equalIn (d+1) f0.type (.int .i64 x0) (.int .i64 y0)).run P w=.ok (x0==y0) w:=fun d=>by simp [Op.equalIn,run_underlying h0]
 have e1:∀d,(Op.equalIn (d+1) f1.type (.int .i64 x1) (.int .i64 y1)).run P w=.ok (x1==y1) w:=fun d=>by simp [Op.equalIn,run_underlying h1]
 have hf:P.fieldsOf T=#[f0,f1]:=by simp [Program.fieldsOf,hu]
 have hn0':f0.name≠ "_" :=by simpa using hn0
 have hn1':f1.name≠ "_" :=by simpa using hn1
 have key:∀d,(Op.equalIn (d+2) T (.agg #[.int .i64 x0,.int .i64 x1]) (.agg #[.int .i64 y0,.int .i64 y1])).run P w=.ok (x0==y0&&x1==y1) w:=by
  intro d
  have:=run_equalIn_struct (P:=P) w (d+1) T #[.int .i64 x0,.int .i64 x1] #[.int .i64 y0,.int .i64 y1] (by rw [hf];exact hu) hp
  rw [this,hf]
  simp only [Op.eqFields,if_pos hn0',if_pos hn1',Sem.run_bind,part,a0,a1,Result.andThen_ok,o0,o1]
  simp [e0,e1]
  cases hx:(x0==y0)<;>cases hy:(x1==y1)<;>simp_all
 exact key 9998
end GoL
