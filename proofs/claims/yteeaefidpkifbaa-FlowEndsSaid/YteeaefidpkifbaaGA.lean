/- A part of the proof: a logic proved sound over the model; contracts; plain laws. -/
import Derived.Calls
import Derived.Orders
import Derived.Tactics
import GoSem.Claims
import Derived.MapKept
import Derived.Laws.Entries
import Derived.Laws.IdiomCopy
import Derived.Laws.Cells
import Derived.Laws.World
import Derived.ChangeKeysEq
import Derived.Lib.Strings
set_option linter.all false
namespace GoL
open Go
def lenMax:Nat:=9223372036854775807
inductive V where
 |int (k:IntKind) (n:Int)
 |bool (b:Bool)
 |str (s:List UInt8)
 |list (c:Bool) (vs:List V)
 |nils
 |agg (vs:List V)
 |tup (vs:List V)
 |ptr (id off:Nat) (p:List Nat)
 |eptr (id len off:Nat) (p:List Nat)
 |dptr (v:V)
 |nilp
 |sl (id len:Nat)
 |fn (f:Nat) (caps:List V)
 |own (e:Nat) (vs:List V)
 |nbox (v:V)
 |gd (g:Bool) (v:V)
 |junk
 deriving Inhabited
mutual
def V.sz:V→Nat
 | .agg vs=>V.szs vs
 |_=>1
def V.szs:List V→Nat
 |[]=>0
 |v::r=>v.sz+V.szs r
end
def V.sub:V→List Nat→Option V
 |v,[]=>some v
 |v,k::p=>match v with
  | .agg vs=>match vs[k]? with
   |some u=>V.sub u p
   |none=>none
  |_=>none
def V.off:V→List Nat→Nat
 |_,[]=>0
 |v,k::p=>match v with
  | .agg vs=>match vs[k]? with
   |some u=>V.szs (vs.take k)+V.off u p
   |none=>0
  |_=>0
def V.upd (x:V):V→List Nat→V
 |_,[]=>x
 |v,k::p=>match v with
  | .agg vs=>match vs[k]? with
   |some u=>.agg (vs.set k (V.upd x u p))
   |none=>.agg vs
  |v=>v
abbrev isCell (v:Value):Bool:=v.oneCell'
structure Img where
 b:Option Nat
 cap:Nat
 arr:Bool
structure Blk where
 arr:Option Nat
 fz:Bool
 t:V
def cellsAt (w:World) (b off:Nat) (cs:List Value):Prop:=∀j c,cs[j]? =some c→w.cell? ⟨b,off+j,none⟩=some c
def isAg:V→Bool
 | .agg _=>true
 |_=>false
structure Ent (e:MapEntry) (k:Int) (a:Bool) (cs:List Value):Prop where
 key:e.key=.int .i64 k
 lo:-9223372036854775808≤k
 hi:k<9223372036854775808
 val:if a=true then e.val=.agg cs.toArray else cs=[e.val]
inductive Imm (w:World) (I:Nat→Prop):V→List Value→Prop
 |int {k n}:Imm w I (.int k n) [.int k n]
 |bool {b}:Imm w I (.bool b) [.bool b]
 |str {s:List UInt8}:s.length≤lenMax→Imm w I (.str s) [.string ⟨s.toArray⟩]
 |nilp:Imm w I .nilp [.pointer none]
 |nils:Imm w I .nils [.slice none 0 0]
 |list {c:Bool} {vs:List V} {a:Option Addr} {cap sz:Nat} {part:Nat→List Value} (hlen:vs.length≤cap) (hcap:cap≤lenMax) (hc:c=true→cap=vs.length)
   (hm:vs≠[]→∃ad:Addr,a=some ad∧ad.spot=none∧I ad.block∧∀i,i<vs.length→cellsAt w ad.block (ad.off+i*sz) (part i))
   (hsz:∀i,i<vs.length→(part i).length=sz) (hr:∀i v,vs[i]? =some v→Imm w I v (part i)):
   Imm w I (.list c vs) [.slice a vs.length cap]
 |agg {vs:List V} {part:Nat→List Value}:(∀i v,vs[i]? =some v→Imm w I v (part i))→Imm w I (.agg vs) ((List.range vs.length).flatMap part)
 |dptr {v:V} {cs:List Value} {b off:Nat}:I b→cellsAt w b off cs→Imm w I v cs→Imm w I (.dptr v) [.pointer (some ⟨b,off,none⟩)]
 |fn {f:Nat} {caps:List V} {g:Nat→Value}:(∀i v,caps[i]? =some v→Imm w I v [g i])→Imm w I (.fn f caps) [.func (.func f) #[] ((List.range caps.length).map g).toArray]
 |nilm {e}:Imm w I (.own e []) [.map none]
 |mp {e b:Nat} {es:List V} {ens:Array MapEntry} {clock:Nat} {ks:Nat→Int} {vs:Nat→V} {part:Nat→List Value} (hb:I b) (hw:w.heap[b]? =some (.map ens clock)) (hs:MapKept.Stamped ens clock) (hl:es.length=ens.size) (hn:es.length≤lenMax)
   (hv:∀(i:Nat) (v:V),es[i]? =some v→v=.agg [.int .i64 (ks i),vs i]) (he:∀i en,ens[i]? =some en→Ent en (ks i) (isAg (vs i)) (part i)) (hr:∀i,i<es.length→Imm w I (vs i) (part i)):
   Imm w I (.own e [.list false es]) [.map (some b)]
 |bag {e:Nat} {c:Bool} {vs us:List V} {cs:List Value}:us.Perm vs→Imm w I (.list c us) cs→Imm w I (.own e [.list c vs,.nilp]) cs
inductive Rep (w:World) (I:Nat→Prop) (ι:Nat→Option Img) (H:Nat→Option Blk):V→List Value→Prop
 |imm {v cs}:Imm w I v cs→Rep w I ι H v cs
 |ptr {id off p b cap}:ι id=some ⟨some b,cap,false⟩→Rep w I ι H (.ptr id off p) [.pointer (some ⟨b,off,none⟩)]
 |sl {id len c img}:isCell c=true→ι id=some img→
   (∀E fz rows,H id=some ⟨some E,fz,.agg rows⟩→len≤rows.length∧(len=rows.length→c=.slice (img.b.map (⟨·,0,none⟩)) len img.cap))→
   Rep w I ι H (.sl id len) [c]
 |eptr {id len off p c img}:isCell c=true→ι id=some img→
   (∀E fz rows,H id=some ⟨some E,fz,.agg rows⟩→len≤rows.length∧(len=rows.length→∃b,img.b=some b∧c=.pointer (some ⟨b,off,none⟩)))→
   Rep w I ι H (.eptr id len off p) [c]
 |agg {vs:List V} {part:Nat→List Value}:(∀i v,vs[i]? =some v→Rep w I ι H v (part i))→Rep w I ι H (.agg vs) ((List.range vs.length).flatMap part)
 |fn {f:Nat} {caps:List V} {g:Nat→Value}:(∀i v,caps[i]? =some v→Rep w I ι H v [g i])→Rep w I ι H (.fn f caps) [.func (.func f) #[] ((List.range caps.length).map g).toArray]
 |own {e id off p b cap c2}:ι id=some ⟨some b,cap,false⟩→Rep w I ι H (.own e [.ptr id off p]) [.slice (some ⟨b,off,none⟩) e c2]
 |view {e id len off p c img}:isCell c=true→ι id=some img→
   (∀E fz rows,H id=some ⟨some E,fz,.agg rows⟩→len≤rows.length∧(len=rows.length→∃b c2,img.b=some b∧c=.slice (some ⟨b,off,none⟩) e c2))→
   Rep w I ι H (.own e [.eptr id len off p]) [c]
 |mp {e id b cap}:ι id=some ⟨some b,cap,false⟩→Rep w I ι H (.own e [.ptr id 0 [],.nilp]) [.map (some b)]
 |junk {c}:isCell c=true→Rep w I ι H .junk [c]
def Slot1 (w:World) (I:Nat→Prop) (ι:Nat→Option Img) (H:Nat→Option Blk):V→Value→Prop
 | .agg vs,cv=>∃cs,cv=.agg cs∧Rep w I ι H (.agg vs) cs.toList
 | .junk,_=>True
 |v,cv=>Rep w I ι H v [cv]
def Slot0 (w:World) (I:Nat→Prop) (ι:Nat→Option Img) (H:Nat→Option Blk):V→Value→Prop
 | .tup vs,cv=>∃g:Nat→Value,cv=.tuple ((List.range vs.length).map g).toArray∧∀i v,vs[i]? =some v→Slot1 w I ι H v (g i)
 |v,cv=>Slot1 w I ι H v cv
def Slot (w:World) (I:Nat→Prop) (ι:Nat→Option Img) (H:Nat→Option Blk):V→Value→Prop
 | .gd g v,cv=>(g=true→Slot w I ι H v cv)∧(g=false→cv=undef)
 |v,cv=>Slot0 w I ι H v cv
structure St where
 s:List (Nat×V)
 h:List (Nat×Blk)
 n:Nat
def look {α:Type}:List (Nat×α)→Nat→Option α
 |[],_=>none
 |(k,v)::r,t=>if k=t then some v else look r t
def NoFr (n:Nat) (fr:Nat×Nat):Prop:=fr.1≤fr.2∧∀o,o<n→¬(fr.1≤o∧o<fr.2)
def BlkAt (w:World) (b:Nat) (cs:List Value):Prop:=
 ∃ty fr,w.heap[b]? =some (.cells cs.toArray ty fr)∧NoFr cs.length fr∧∀c∈cs,isCell c=true
def ArrAt (P:Program) (w:World) (I:Nat→Prop) (img:Img) (E:Nat) (rows:List V):Prop:=
 rows.length≤img.cap∧img.cap≤lenMax∧match img.b with
  |none=>img.cap=0
  |some b=>∃front spare:List Value,BlkAt w b (front++spare)∧Imm w I (.agg rows) front∧
    (front++spare).length=img.cap*P.cellsOf E∧∀r∈rows,r.sz=P.cellsOf E
def isMapT:V→Bool
 | .own _ _=>true
 |_=>false
def Blk.row (b:Blk):Bool:=match b.arr with
 |none=>false
 |some _=>!isMapT b.t
def MapAt (w:World) (I:Nat→Prop) (b:Nat) (es:List V):Prop:=
 ∃(ens:Array MapEntry) (clock:Nat) (ks:Nat→Int) (vs:Nat→V) (part:Nat→List Value),w.heap[b]? =some (.map ens clock)∧MapKept.Stamped ens clock∧es.length=ens.size∧es.length≤lenMax∧
  (∀(i:Nat) (v:V),es[i]? =some v→v=.agg [.int .i64 (ks i),vs i])∧(∀i en,ens[i]? =some en→Ent en (ks i) (isAg (vs i)) (part i))∧∀i,i<es.length→Imm w I (vs i) (part i)
def BlkRep (P:Program) (w:World) (I:Nat→Prop) (ι:Nat→Option Img) (H:Nat→Option Blk) (id:Nat) (blk:Blk):Prop:=
 ∃img,ι id=some img∧img.arr=blk.row∧match blk.arr with
  |none=>∃b cs,img.b=some b∧BlkAt w b cs∧Rep w I ι H blk.t cs
  |some E=>(∃rows,blk.t=.agg rows∧ArrAt P w I img E rows)∨(∃es b,blk.t=.own E es∧img.b=some b∧MapAt w I b es)
structure MRel (P:Program) (U I0:Nat→Prop) (H:Nat→Option Blk) (w:World) (I:Nat→Prop) (ι:Nat→Option Img):Prop where
 heap:∀id blk,H id=some blk→BlkRep P w I ι H id blk
 inj:∀i j m k b,ι i=some m→ι j=some k→m.b=some b→k.b=some b→i=j
 img:∀i m b,ι i=some m→m.b=some b→U b∧b<w.heap.size
 live:∀id blk m b,H id=some blk→ι id=some m→m.b=some b→(blk.fz=true→I b)∧(blk.fz=false→¬I b)
 bnd:∀b,I b→b<w.heap.size
 org:∀b,I b→I0 b∨U b
 new:∀b,w.heap.size≤b→U b
def keep (I:Nat→Prop) (w w':World):Prop:=∀b,I b→w'.heap[b]? =w.heap[b]?
theorem keep.refl {I:Nat→Prop} (w:World):keep I w w:=fun _ _=>rfl
theorem keep.trans {I:Nat→Prop} {w w1 w2:World} (h:keep I w w1) (h':keep I w1 w2):keep I w w2:=fun b hb=>(h' b hb).trans (h b hb)
theorem keep.mono {I I':Nat→Prop} {w w1:World} (h:keep I w w1) (hi:∀b,I' b→I b):keep I' w w1:=fun b hb=>h b (hi b hb)
theorem cell?_congr {w w':World} {b off:Nat} (h:w'.heap[b]? =w.heap[b]?):w'.cell? ⟨b,off,none⟩=w.cell? ⟨b,off,none⟩:=by
 simp [World.cell?,h]
theorem cellsAt.keep {w w':World} {b off:Nat} {cs:List Value} (h:w'.heap[b]? =w.heap[b]?) (hc:cellsAt w b off cs):cellsAt w' b off cs:=
 fun j c hj=>(cell?_congr h).trans (hc j c hj)
theorem Imm.mono {w w':World} {I I':Nat→Prop} (hk:keep I w w') (hi:∀b,I b→I' b) {v:V} {cs:List Value} (h:Imm w I v cs):Imm w' I' v cs:=by
 induction h with
 |int=>exact .int
 |bool=>exact .bool
 |str h=>exact .str h
 |nilp=>exact .nilp
 |nils=>exact .nils
 |list hlen hcap hc hm hsz hr ih=>
  refine .list hlen hcap hc (fun hne=>?_) hsz ih
  obtain ⟨ad,ha,hs,hI,hcell⟩:=hm hne
  exact ⟨ad,ha,hs,hi _ hI,fun i h=>(hcell i h).keep (hk _ hI)⟩
 |agg _ ih=>exact .agg ih
 |dptr hI hc _ ih=>exact .dptr (hi _ hI) (hc.keep (hk _ hI)) ih
 |fn _ ih=>exact .fn ih
 |nilm=>exact .nilm
 |mp hb hw hs hl hn hv he hr ih=>exact .mp (hi _ hb) ((hk _ hb).trans hw) hs hl hn hv he ih
 |bag hp _ ih=>exact .bag hp ih
theorem Imm.cells {w:World} {I:Nat→Prop} {v:V} {cs:List Value} (h:Imm w I v cs):∀c∈cs,isCell c=true:=by
 induction h with
 |agg h ih=>
  rename_i vs part
  intro c hc
  simp only [List.mem_flatMap,List.mem_range] at hc
  obtain ⟨i,hi,hc⟩:=hc
  exact ih i vs[i] (by simp [hi]) c hc
 |bag _ _ ih=>exact ih
 |_=>simp [Value.oneCell']
theorem Rep.cells {w:World} {I:Nat→Prop} {ι:Nat→Option Img} {H:Nat→Option Blk} {v:V} {cs:List Value} (h:Rep w I ι H v cs):∀c∈cs,isCell c=true:=by
 induction h with
 |imm h=>exact h.cells
 |agg h ih=>
  rename_i vs part
  intro c hc
  simp only [List.mem_flatMap,List.mem_range] at hc
  obtain ⟨i,hi,hc⟩:=hc
  exact ih i vs[i] (by simp [hi]) c hc
 |ptr _=>simp [Value.oneCell']
 |own _=>simp [Value.oneCell']
 |mp _=>simp [Value.oneCell']
 |fn _ _=>simp [Value.oneCell']
 |sl h _ _=>simpa using h
 |eptr h _ _=>simpa using h
 |view h _ _=>simpa using h
 |junk h=>simpa using h
def HGo (ι ι':Nat→Option Img) (H H':Nat→Option Blk):Prop:=
 ∀id img,ι id=some img→∃img',ι' id=some img'∧(img.arr=false→img'=img)∧
  ∀E fz rows,H' id=some ⟨some E,fz,.agg rows⟩→∃E0 fz0 rows0,H id=some ⟨some E0,fz0,.agg rows0⟩∧rows0.length≤rows.length∧(rows0.length=rows.length→img'=img)
theorem HGo.refl {ι:Nat→Option Img} {H:Nat→Option Blk}:HGo ι ι H H:=
 fun id img h=>⟨img,h,fun _=>rfl,fun E fz rows hr=>⟨E,fz,rows,hr,Nat.le_refl _,fun _=>rfl⟩⟩
theorem Rep.mono {w w':World} {I I':Nat→Prop} {ι ι':Nat→Option Img} {H H':Nat→Option Blk} (hk:keep I w w') (hi:∀b,I b→I' b)
  (hg:HGo ι ι' H H') {v:V} {cs:List Value} (h:Rep w I ι H v cs):Rep w' I' ι' H' v cs:=by
 induction h with
 |imm h=>exact .imm (h.mono hk hi)
 |ptr h=>
  obtain ⟨img',h1,h2,_⟩:=hg _ _ h
  exact .ptr (by rw [h1,h2 rfl])
 |own h=>
  obtain ⟨img',h1,h2,_⟩:=hg _ _ h
  exact .own (by rw [h1,h2 rfl])
 |mp h=>
  obtain ⟨img',h1,h2,_⟩:=hg _ _ h
  exact .mp (by rw [h1,h2 rfl])
 |sl hc hi2 hr=>
  obtain ⟨img',h1,_,h3⟩:=hg _ _ hi2
  refine .sl hc h1 fun E fz rows hH=>?_
  obtain ⟨E0,fz0,rows0,hH0,hle,heq⟩:=h3 E fz rows hH
  obtain ⟨a1,a2⟩:=hr E0 fz0 rows0 hH0
  refine ⟨by omega,fun hl=>?_⟩
  rw [heq (by omega)]
  exact a2 (by omega)
 |eptr hc hi2 hr=>
  obtain ⟨img',h1,_,h3⟩:=hg _ _ hi2
  refine .eptr hc h1 fun E fz rows hH=>?_
  obtain ⟨E0,fz0,rows0,hH0,hle,heq⟩:=h3 E fz rows hH
  obtain ⟨a1,a2⟩:=hr E0 fz0 rows0 hH0
  refine ⟨by omega,fun hl=>?_⟩
  rw [heq (by omega)]
  exact a2 (by omega)
 |view hc hi2 hr=>
  obtain ⟨img',h1,_,h3⟩:=hg _ _ hi2
  refine .view hc h1 fun E fz rows hH=>?_
  obtain ⟨E0,fz0,rows0,hH0,hle,heq⟩:=h3 E fz rows hH
  obtain ⟨a1,a2⟩:=hr E0 fz0 rows0 hH0
  refine ⟨by omega,fun hl=>?_⟩
  rw [heq (by omega)]
  exact a2 (by omega)
 |agg _ ih=>exact .agg ih
 |fn _ ih=>exact .fn ih
 |junk h=>exact .junk h
theorem Slot1.mono {w w':World} {I I':Nat→Prop} {ι ι':Nat→Option Img} {H H':Nat→Option Blk} (hk:keep I w w') (hi:∀b,I b→I' b)
  (hg:HGo ι ι' H H') {v:V} {cv:Value} (h:Slot1 w I ι H v cv):Slot1 w' I' ι' H' v cv:=by
 cases v<;>simp only [Slot1] at h ⊢ <;>first
  |exact h.mono hk hi hg
  |(obtain ⟨cs,h1,h2⟩:=h;exact ⟨cs,h1,h2.mono hk hi hg⟩)
theorem Slot0.mono {w w':World} {I I':Nat→Prop} {ι ι':Nat→Option Img} {H H':Nat→Option Blk} (hk:keep I w w') (hi:∀b,I b→I' b)
  (hg:HGo ι ι' H H') {v:V} {cv:Value} (h:Slot0 w I ι H v cv):Slot0 w' I' ι' H' v cv:=by
 cases v<;>simp only [Slot0] at h ⊢ <;>first
  |exact Slot1.mono hk hi hg h
  |(obtain ⟨g,h1,h2⟩:=h;exact ⟨g,h1,fun i v hv=>Slot1.mono hk hi hg (h2 i v hv)⟩)
theorem Slot.mono {w w':World} {I I':Nat→Prop} {ι ι':Nat→Option Img} {H H':Nat→Option Blk} (hk:keep I w w') (hi:∀b,I b→I' b)
  (hg:HGo ι ι' H H'):∀{v:V} {cv:Value},Slot w I ι H v cv→Slot w' I' ι' H' v cv
 | .gd g v,cv,h=>by
  simp only [Slot] at h ⊢
  exact ⟨fun hgd=>Slot.mono hk hi hg (h.1 hgd),h.2⟩
 | .int ..,cv,h| .bool ..,cv,h| .str ..,cv,h| .list ..,cv,h| .nils,cv,h| .agg ..,cv,h| .tup ..,cv,h| .ptr ..,cv,h| .eptr ..,cv,h| .dptr ..,cv,h| .nilp,cv,h| .sl ..,cv,h
 | .fn ..,cv,h| .own ..,cv,h| .nbox ..,cv,h| .junk,cv,h=>by
  simp only [Slot] at h ⊢
  exact Slot0.mono hk hi hg h
theorem length_parts (vs:List V):∀(part:Nat→List Value),(∀i v,vs[i]? =some v→(part i).length=v.sz)→
  ((List.range vs.length).flatMap part).length=V.szs vs:=by
 induction vs with
 |nil=>intro part h;simp [V.szs]
 |cons v r ih=>
  intro part h
  rw [List.length_cons,List.range_succ_eq_map,List.flatMap_cons,List.length_append,h 0 v rfl,List.flatMap_map]
  rw [ih (fun i=>part (i+1)) (fun i u hu=>h (i+1) u (by simpa using hu))]
  simp [V.szs]
theorem Imm.size {w:World} {I:Nat→Prop} {v:V} {cs:List Value} (h:Imm w I v cs):cs.length=v.sz:=by
 induction h with
 |agg h ih=>rw [V.sz];exact length_parts _ _ ih
 |bag _ _ ih=>exact ih
 |_=>rfl
theorem Rep.size {w:World} {I:Nat→Prop} {ι:Nat→Option Img} {H:Nat→Option Blk} {v:V} {cs:List Value} (h:Rep w I ι H v cs):cs.length=v.sz:=by
 induction h with
 |imm h=>exact h.size
 |agg h ih=>rw [V.sz];exact length_parts _ _ ih
 |_=>rfl
open Go
theorem flatMap_congr' {α β:Type} {l:List α} {f g:α→List β} (h:∀x∈l,f x=g x):l.flatMap f=l.flatMap g:=by
 rw [List.flatMap_def,List.flatMap_def,List.map_congr_left h]
theorem parts_split (vs:List V):∀(part:Nat→List Value) (k:Nat) (v:V),vs[k]? =some v→
  ∃pre post,(List.range vs.length).flatMap part=pre++part k++post∧pre=(List.range k).flatMap part∧
   ∀part':Nat→List Value,(∀i,i≠k→part' i=part i)→(List.range vs.length).flatMap part'=pre++part' k++post:=by
 intro part k v hk
 have hlt:k<vs.length:=by
  rcases Nat.lt_or_ge k vs.length with h|h
  ·exact h
  ·simp [List.getElem?_eq_none h] at hk
 have hr:List.range vs.length=List.range k++k::(List.range (vs.length-k-1)).map (·+(k+1)):=by
  have e:vs.length=k+(1+(vs.length-k-1)):=by omega
  conv=>lhs;rw [e,List.range_add,List.range_add]
  simp [Nat.add_comm,Nat.add_left_comm]
 refine ⟨(List.range k).flatMap part,((List.range (vs.length-k-1)).map (·+(k+1))).flatMap part, ?_,rfl,fun part' h=>?_⟩
 ·rw [hr];simp
 ·rw [hr]
  have e1:(List.range k).flatMap part'=(List.range k).flatMap part:=by
   apply flatMap_congr'
   intro i hi
   exact h i (by simp at hi;omega)
  have e2:((List.range (vs.length-k-1)).map (·+(k+1))).flatMap part'=((List.range (vs.length-k-1)).map (·+(k+1))).flatMap part:=by
   apply flatMap_congr'
   intro i hi
   simp at hi
   obtain ⟨j,_,rfl⟩:=hi
   exact h _ (by omega)
  simp [e1,e2]
theorem szs_take (vs:List V) (part:Nat→List Value) (h:∀i v,vs[i]? =some v→(part i).length=v.sz) (k:Nat) (hk:k≤vs.length):
  ((List.range k).flatMap part).length=V.szs (vs.take k):=by
 have e:(vs.take k).length=k:=by simp [hk]
 rw [←length_parts (vs.take k) part (fun i v hv=>h i v (by
  rw [List.getElem?_take] at hv
  split at hv
  ·exact hv
  ·cases hv)),e]
section
variable {w:World} {I:Nat→Prop} {ι:Nat→Option Img} {H:Nat→Option Blk}
theorem Rep.agg_inv {vs:List V} {cs:List Value} (h:Rep w I ι H (.agg vs) cs):
  ∃part:Nat→List Value,cs=(List.range vs.length).flatMap part∧∀i v,vs[i]? =some v→Rep w I ι H v (part i):=by
 cases h with
 |imm h=>cases h with
  |agg h=>exact ⟨_,rfl,fun i v hv=>.imm (h i v hv)⟩
 |agg h=>exact ⟨_,rfl,h⟩
theorem Imm.agg_inv {vs:List V} {cs:List Value} (h:Imm w I (.agg vs) cs):
  ∃part:Nat→List Value,cs=(List.range vs.length).flatMap part∧∀i v,vs[i]? =some v→Imm w I v (part i):=by
 cases h with
 |agg h=>exact ⟨_,rfl,h⟩
theorem Rep.sub {p:List Nat}:∀{v u:V} {cs:List Value},Rep w I ι H v cs→v.sub p=some u→
  ∃pre mid post,cs=pre++mid++post∧pre.length=v.off p∧Rep w I ι H u mid∧
   ∀x xs,Rep w I ι H x xs→Rep w I ι H (V.upd x v p) (pre++xs++post):=by
 induction p with
 |nil=>
  intro v u cs h hs
  simp only [V.sub,Option.some.injEq] at hs
  subst hs
  exact ⟨[],cs,[],by simp,by simp [V.off],h,fun x xs hx=>by simpa [V.upd] using hx⟩
 |cons k p ih=>
  intro v u cs h hs
  cases v with
  |agg vs=>
   simp only [V.sub] at hs
   cases hk:vs[k]? with
   |none=>simp [hk] at hs
   |some v1=>
    rw [hk] at hs
    simp only at hs
    obtain ⟨part,rfl,hp⟩:=h.agg_inv
    obtain ⟨pre,post,e1,e2,e3⟩:=parts_split vs part k v1 hk
    obtain ⟨pre1,mid,post1,f1,f2,f3,f4⟩:=ih (hp k v1 hk) hs
    have hlt:k<vs.length:=by
     rcases Nat.lt_or_ge k vs.length with h|h
     ·exact h
     ·simp [List.getElem?_eq_none h] at hk
    refine ⟨pre++pre1,mid,post1++post,by rw [e1,f1];simp, ?_,f3,fun x xs hx=>?_⟩
    ·simp only [V.off,hk,List.length_append,f2]
     rw [e2,szs_take vs part (fun i v hv=>(hp i v hv).size) k (by omega)]
    ·simp only [V.upd,hk]
     have:=f4 x xs hx
     let part':Nat→List Value:=fun i=>if i=k then pre1++xs++post1 else part i
     have hne:∀i,i≠k→part' i=part i:=fun i hi=>by simp [part',hi]
     have e:=e3 part' hne
     have ek:part' k=pre1++xs++post1:=by simp [part']
     have e':pre++pre1++xs++(post1++post)=(List.range (vs.set k (V.upd x v1 p)).length).flatMap part':=by
      rw [List.length_set,e,ek];simp
     rw [e']
     refine .agg fun i v hv=>?_
     rw [List.getElem?_set] at hv
     by_cases hik:k=i
     ·subst hik
      simp [hlt] at hv
      subst hv
      rw [ek];exact this
     ·rw [if_neg hik] at hv
      rw [hne i (fun h=>hik h.symm)]
      exact hp i v hv
  |_=>simp [V.sub] at hs
theorem Imm.sub {p:List Nat}:∀{v u:V} {cs:List Value},Imm w I v cs→v.sub p=some u→
  ∃pre mid post,cs=pre++mid++post∧pre.length=v.off p∧Imm w I u mid∧
   ∀x xs,Imm w I x xs→Imm w I (V.upd x v p) (pre++xs++post):=by
 induction p with
 |nil=>
  intro v u cs h hs
  simp only [V.sub,Option.some.injEq] at hs
  subst hs
  exact ⟨[],cs,[],by simp,by simp [V.off],h,fun x xs hx=>by simpa [V.upd] using hx⟩
 |cons k p ih=>
  intro v u cs h hs
  cases v with
  |agg vs=>
   simp only [V.sub] at hs
   cases hk:vs[k]? with
   |none=>simp [hk] at hs
   |some v1=>
    rw [hk] at hs
    simp only at hs
    obtain ⟨part,rfl,hp⟩:=h.agg_inv
    obtain ⟨pre,post,e1,e2,e3⟩:=parts_split vs part k v1 hk
    obtain ⟨pre1,mid,post1,f1,f2,f3,f4⟩:=ih (hp k v1 hk) hs
    have hlt:k<vs.length:=by
     rcases Nat.lt_or_ge k vs.length with h|h
     ·exact h
     ·simp [List.getElem?_eq_none h] at hk
    refine ⟨pre++pre1,mid,post1++post,by rw [e1,f1];simp, ?_,f3,fun x xs hx=>?_⟩
    ·simp only [V.off,hk,List.length_append,f2]
     rw [e2,szs_take vs part (fun i v hv=>(hp i v hv).size) k (by omega)]
    ·simp only [V.upd,hk]
     have:=f4 x xs hx
     let part':Nat→List Value:=fun i=>if i=k then pre1++xs++post1 else part i
     have hne:∀i,i≠k→part' i=part i:=fun i hi=>by simp [part',hi]
     have e:=e3 part' hne
     have ek:part' k=pre1++xs++post1:=by simp [part']
     have e':pre++pre1++xs++(post1++post)=(List.range (vs.set k (V.upd x v1 p)).length).flatMap part':=by
      rw [List.length_set,e,ek];simp
     rw [e']
     refine .agg fun i v hv=>?_
     rw [List.getElem?_set] at hv
     by_cases hik:k=i
     ·subst hik
      simp [hlt] at hv
      subst hv
      rw [ek];exact this
     ·rw [if_neg hik] at hv
      rw [hne i (fun h=>hik h.symm)]
      exact hp i v hv
  |_=>simp [V.sub] at hs
end
open Go
def szO (P:Program) (T:Nat):Option Nat:=(P.info? T).map (·.size)
def byO (P:Program) (T:Nat):Option Nat:=(P.info? T).map (·.bytes)
def isAggD:TypeDesc→Bool
 | .struct _| .array _ _=>true
 |_=>false
def aggT (P:Program) (T:Nat):Option Bool:=(P.underlying T).map isAggD
def fOff (P:Program) (T k:Nat):Option Nat:=match P.underlying T with
 |some (.struct fs)=>match fs[k]? with
  |some f=>match szO P f.type with
   |some (_+1)=>some f.offset
   |_=>none
  |none=>none
 |_=>none
def fTy (P:Program) (T k:Nat):Option Nat:=match P.underlying T with|some (.struct fs)=>(fs[k]?).map (·.type)|_=>none
def elemT (P:Program) (T:Nat):Option Nat:=match P.underlying T with|some (.slice e)=>some e|_=>none
def arrT (P:Program) (T:Nat):Option (Nat×Nat):=match P.underlying T with|some (.array n e)=>some (n,e)|_=>none
def kindT (P:Program) (T:Nat):Option IntKind:=match P.underlying T with|some (.int k)=>some k|_=>none
def isT (P:Program) (T:Nat):Bool:=(P.underlying T).isSome
def boolT (P:Program) (T:Nat):Bool:=match P.underlying T with|some .bool=>true|_=>false
def strT (P:Program) (T:Nat):Bool:=match P.underlying T with|some .string=>true|_=>false
def zeroV (P:Program):Nat→Nat→V
 |0,_=>.junk
 |d+1,T=>match P.underlying T with
  |some (.int k)=>.int k 0
  |some .bool=>.bool false
  |some .string=>.str []
  |some (.slice _)=>.nils
  |some (.pointer _)=>.nilp
  |some (.map _ _)=>.own 0 []
  |some (.struct fs)=>.agg (fs.toList.map fun f=>zeroV P d f.type)
  |some (.array n e)=>.agg (List.replicate n (zeroV P d e))
  |_=>.junk
def zeroT (P:Program) (T:Nat):V:=zeroV P 9 T
mutual
def V.flat:V→Option (List Value)
 | .int k n=>some [.int k n]
 | .bool b=>some [.bool b]
 | .str s=>if s=[] then some [.string ⟨#[]⟩] else none
 | .nils=>some [.slice none 0 0]
 | .nilp=>some [.pointer none]
 | .own _ []=>some [.map none]
 | .agg vs=>V.flats vs
 |_=>none
def V.flats:List V→Option (List Value)
 |[]=>some []
 |v::r=>match v.flat,V.flats r with
  |some a,some b=>some (a++b)
  |_,_=>none
end
def sameCell:Value→Value→Bool
 | .int k n,.int j m=>k==j&&n==m
 | .bool a,.bool b=>a==b
 | .string a,.string b=>a.data.toList==b.data.toList
 | .slice none 0 0,.slice none 0 0=>true
 | .pointer none,.pointer none=>true
 | .map none,.map none=>true
 |_,_=>false
def sameCells:List Value→List Value→Bool
 |[],[]=>true
 |a::r,b::q=>sameCell a b&&sameCells r q
 |_,_=>false
def zeroOk (P:Program) (T:Nat) (z:V):Bool:=
 match ((P.info? T).bind (·.zero):Option Value),z.flat with
 |some c,some l=>sameCells c.cells.toList l&&(szO P T==some z.sz)&&(match c,z with| .agg _,.agg _=>true| .agg _,_| .tuple _,_|_,.agg _=>false|_,_=>true)
 |_,_=>false
structure StructEq (P:Program) (T:Nat):Prop where
 out:∀(w:World) (x0 x1 y0 y1:Int),(Op.equal T (.agg #[.int .i64 x0,.int .i64 x1]) (.agg #[.int .i64 y0,.int .i64 y1])).run P w=.ok (x0==y0&&x1==y1) w∧
  ((P.eqGuardType P.depth T)=false)
def cV:Value→V
 | .bool b=>.bool b
 | .int k n=>.int k n
 | .string s=>.str s.data.toList
 | .slice none 0 0=>.nils
 | .pointer none=>.nilp
 | .map none=>.own 0 []
 |_=>.junk
def ev (s:List (Nat×V)):Operand→V
 | .tmp t=>(look s t).getD .junk
 | .const v=>cV v
 | .func f=>.fn f []
 | .global _=>.junk
structure Out where
 ok:Prop:=True
 ln:Prop:=True
 v:V:=.junk
 hw:List (Nat×Blk):=[]
def Out.no:Out:={ ok:=False }
structure Sq where
 ok:Prop
 vs:List V
def byteV:V→UInt8
 | .int _ n=>UInt8.ofNat n.toNat
 |_=>0
def isByte (v:V):Prop:=v=.int .u8 (byteV v).toNat
def seqOf (H:Nat→Option Blk):V→Sq
 | .list _ vs=>⟨True,vs⟩
 | .nils=>⟨True,[]⟩
 | .sl id len=>match H id with
  |some ⟨some _,_,.agg rows⟩=>⟨len=rows.length,rows⟩
  |_=>⟨False,[]⟩
 | .str s=>⟨True,s.map fun b=>.int .u8 b.toNat⟩
 |_=>⟨False,[]⟩
structure Pu where
 ok:Prop
 v:V
 fz:List Nat
def flat:V→Bool
 | .int _ _=>true
 | .bool _=>true
 | .str _=>true
 | .list _ _=>true
 | .dptr _=>true
 |_=>false
mutual
def pureV (H:Nat→Option Blk):V→Pu
 | .sl id len=>match H id with
  |some ⟨some _,_,.agg rows⟩=>⟨len=rows.length,.list false rows,[id]⟩
  |_=>⟨False,.junk,[]⟩
 | .agg vs=>⟨(pureVs H vs).1,.agg (pureVs H vs).2.1,(pureVs H vs).2.2⟩
 | .nils=>⟨True,.list false [],[]⟩
 | .list _ vs=>⟨True,.list false vs,[]⟩
 | .int k n=>⟨True,.int k n,[]⟩
 | .bool b=>⟨True,.bool b,[]⟩
 | .str s=>⟨True,.str s,[]⟩
 | .dptr v=>⟨True,.dptr v,[]⟩
 | .nilp=>⟨True,.nilp,[]⟩
 | .fn f caps=>⟨(pureVs H caps).1,.fn f (pureVs H caps).2.1,(pureVs H caps).2.2⟩
 | .ptr id off p=>match off,p with
  |0,[]=>match H id with
   |some ⟨none,_,t⟩=>⟨flat t=true,.dptr t,[id]⟩
   |_=>⟨False,.junk,[]⟩
  |_,_=>⟨False,.junk,[]⟩
 | .own e l=>match l with
  |[]=>⟨True,.own e [],[]⟩
  |[.list false es]=>⟨True,.own e [.list false es],[]⟩
  |[.list c vs,.nilp]=>⟨True,.own e [.list c vs,.nilp],[]⟩
  |[.ptr i off p,.nilp]=>match off,p with
   |0,[]=>match H i with
    |some ⟨some _,_,.own _ es⟩=>⟨True,.own e [.list false es],[i]⟩
    |_=>⟨False,.junk,[]⟩
   |_,_=>⟨False,.junk,[]⟩
  |_=>⟨False,.junk,[]⟩
 |_=>⟨False,.junk,[]⟩
def pureVs (H:Nat→Option Blk):List V→Prop×List V×List Nat
 |[]=>(True,[],[])
 |v::r=>((pureV H v).ok∧(pureVs H r).1,(pureV H v).v::(pureVs H r).2.1,(pureV H v).fz++(pureVs H r).2.2)
end
def frz (H:Nat→Option Blk):List Nat→List (Nat×Blk)
 |[]=>[]
 |i::r=>match H i with
  |some b=>match b.fz with
   |true=>frz H r
   |false=>(i,{ b with fz:=true })::frz H r
  |none=>frz H r
def V.boxy:V→Bool
 | .tup _| .gd _ _| .nbox _| .junk=>false
 |_=>true
def mget:List V→Int→Option V
 |[],_=>none
 | .agg [.int _ x,v]::r,k=>match x==k with
  |true=>some v
  |false=>mget r k
 |_::r,k=>mget r k
def mput:List V→Int→V→List V
 |[],k,v=>[.agg [.int .i64 k,v]]
 | .agg [.int q x,u]::r,k,v=>match x==k with
  |true=>.agg [.int .i64 k,v]::r
  |false=>.agg [.int q x,u]::mput r k v
 |y::r,k,v=>y::mput r k v
def mdel:List V→Int→List V
 |[],_=>[]
 | .agg [.int q x,u]::r,k=>match x==k with
  |true=>r
  |false=>.agg [.int q x,u]::mdel r k
 |y::r,k=>y::mdel r k
def mapT (P:Program) (T:Nat):Option Nat:=match P.underlying T with
 |some (.map K E)=>match P.underlying K with
  |some (.int .i64)=>some E
  |_=>none
 |_=>none
def mapEs (H:Nat→Option Blk):V→Option (List V)
 | .own _ l=>match l with
  |[.ptr i off p,.nilp]=>match off,p with
   |0,[]=>match H i with
    |some ⟨some _,_,.own _ es⟩=>some es
    |_=>none
   |_,_=>none
  |[.list false es]=>some es
  |[]=>some []
  |_=>none
 |_=>none
def makeMapV (id T:Nat):Option Operand→Out
 |none=>{ v:=.own T [.ptr id 0 [],.nilp],hw:=[(id,⟨some T,false,.own T []⟩)] }
 |some _=>.no
def okV:Bool→V→Bool→V
 |true,v,b=>.tup [v,.bool b]
 |false,v,_=>v
def lookupV (P:Program) (H:Nat→Option Blk) (T:Nat) (x k:V) (ok:Bool):Out:=match mapT P T with
 |some E=>match mapEs H x with
  |some es=>match k with
   | .int .i64 k=>{ ok:=zeroOk P E (zeroT P E)=true,v:=okV ok ((mget es k).getD (zeroT P E)) (mget es k).isSome }
   |_=>.no
  |none=>.no
 |none=>.no
def updMap (P:Program) (H:Nat→Option Blk) (T:Nat) (k x:V):V→Out
 | .own _ l=>match l with
  |[.ptr i off p,.nilp]=>match off,p with
   |0,[]=>match mapT P T with
    |some _=>match H i with
     |some ⟨some T3,fz,.own T4 es⟩=>match fz with
      |false=>match k with
       | .int .i64 k=>{ ok:=(pureV H x).ok∧x.boxy=true∧es.length<lenMax∧-9223372036854775808≤k∧k<9223372036854775808∧i∉(pureV H x).fz,hw:=(i,⟨some T3,false,.own T4 (mput es k (pureV H x).v)⟩)::frz H (pureV H x).fz }
       |_=>.no
      |true=>.no
     |_=>.no
    |none=>.no
   |_,_=>.no
  |_=>.no
 |_=>.no
def delMap (P:Program) (H:Nat→Option Blk) (T:Nat) (k:V):V→Out
 | .own _ l=>match l with
  |[.ptr i off p,.nilp]=>match off,p with
   |0,[]=>match mapT P T with
    |some _=>match H i with
     |some ⟨some T3,fz,.own T4 es⟩=>match fz with
      |false=>match k with
       | .int .i64 k=>{ hw:=[(i,⟨some T3,false,.own T4 (mdel es k)⟩)] }
       |_=>.no
      |true=>.no
     |_=>.no
    |none=>.no
   |_,_=>.no
  |_=>.no
 |_=>.no
def intBin (op:BinOp) (k:IntKind) (a b:Int):Out:=
 match op with
 | .add=>{ v:=.int k (k.wrap (a+b)) }
 | .sub=>{ v:=.int k (k.wrap (a-b)) }
 | .mul=>{ v:=.int k (k.wrap (a*b)) }
 | .quo=>{ ok:=b≠0,v:=.int k (k.wrap (a.tdiv b)) }
 | .rem=>{ ok:=b≠0,v:=.int k (a.tmod b) }
 | .and=>{ v:=.int k (bits .and k a b) }
 | .or=>{ v:=.int k (bits .or k a b) }
 | .xor=>{ v:=.int k (bits .xor k a b) }
 | .andNot=>{ v:=.int k (bits .andNot k a b) }
 | .eql=>{ v:=.bool (a==b) }
 | .neq=>{ v:=.bool (a != b) }
 | .lss=>{ v:=.bool (decide (a<b)) }
 | .leq=>{ v:=.bool (decide (a≤b)) }
 | .gtr=>{ v:=.bool (decide (a>b)) }
 | .geq=>{ v:=.bool (decide (a≥b)) }
 | .shl| .shr=>.no
def binV (P:Program) (op:BinOp) (T:Nat):V→V→Out
 | .int k a,.int j b=>match op with
  | .shl=>{ ok:=0≤b,v:=.int k (k.wrap (a*2 ^ (min b.toNat k.bits))) }
  | .shr=>{ ok:=0≤b,v:=.int k (a.fdiv (2 ^ (min b.toNat k.bits))) }
  |op=>{ intBin op k a b with ok:=k=j∧(intBin op k a b).ok }
 | .str a,.str b=>match op with
  | .add=>{ ok:=a.length+b.length≤lenMax,v:=.str (a++b) }
  | .eql=>{ v:=.bool (a==b) }
  | .neq=>{ v:=.bool (a != b) }
  |_=>.no
 | .bool a,.bool b=>match op with
  | .eql=>{ ok:=boolT P T=true,v:=.bool (a==b) }
  | .neq=>{ ok:=boolT P T=true,v:=.bool (a != b) }
  |_=>.no
 | .agg [.int .i64 x0,.int .i64 x1],.agg [.int .i64 y0,.int .i64 y1]=>match op with
  | .eql=>{ ok:=StructEq P T,v:=.bool (x0==y0&&x1==y1) }
  | .neq=>{ ok:=StructEq P T,v:=.bool !(x0==y0&&x1==y1) }
  |_=>.no
 |_,_=>.no
def unV (op:UnOp):V→Out
 | .int k n=>match op with
  | .neg=>{ v:=.int k (k.wrap (0-n)) }
  | .xor=>{ v:=.int k (bits .xor k (if k.signed then -1 else k.max) n) }
  |_=>.no
 | .bool b=>match op with
  | .not=>{ v:=.bool (!b) }
  |_=>.no
 |_=>.no
def V.isAgg:V→Bool
 | .agg _=>true
 |_=>false
def LdOk (P:Program) (T:Nat) (u:V):Prop:=szO P T=some u.sz∧aggT P T=some u.isAgg
def loadV (P:Program) (H:Nat→Option Blk) (T:Nat):V→Out
 | .ptr id off p=>match H id with
  |some ⟨none,_,t⟩=>match t.sub p with
   |some u=>{ ok:=t.off p=off∧LdOk P T u,v:=u }
   |none=>.no
  |_=>.no
 | .eptr id len off p=>match H id with
  |some ⟨some _,_,.agg rows⟩=>match (V.agg rows).sub p with
   |some u=>{ ok:=len=rows.length∧(V.agg rows).off p=off∧LdOk P T u,v:=u }
   |none=>.no
  |_=>.no
 | .dptr u=>{ ok:=LdOk P T u,v:=u }
 |_=>.no
def fieldAddrV (P:Program) (H:Nat→Option Blk) (T k:Nat):V→Out
 | .ptr id off p=>match fOff P T k with
  |some o=>{ v:=.ptr id (off+o) (p++[k]) }
  |none=>.no
 | .eptr id len off p=>match fOff P T k,H id with
  |some o,some ⟨some _,_,.agg rows⟩=>{ ok:=len=rows.length,v:=.eptr id len (off+o) (p++[k]) }
  |_,_=>.no
 | .dptr (.agg vs)=>match fOff P T k,vs[k]? with
  |some o,some u=>{ ok:=V.szs (vs.take k)=o,v:=.dptr u }
  |_,_=>.no
 |_=>.no
def getV (vs:List V) (i:Int):V:=vs.getD i.toNat .junk
def indexAddrV (P:Program) (H:Nat→Option Blk) (T:Nat):V→V→Out
 | .list _ vs,.int _ i=>match elemT P T with
  |some E=>{ ok:=0≤i∧i<vs.length∧szO P E=some (getV vs i).sz,v:=.dptr (getV vs i) }
  |none=>.no
 | .sl id len,.int _ i=>match elemT P T,H id with
  |some E,some ⟨some E',_,.agg rows⟩=>{ ok:=len=rows.length∧0≤i∧i<len∧szO P E=some (P.cellsOf E'),v:=.eptr id len (i.toNat*P.cellsOf E') [i.toNat] }
  |_,_=>.no
 | .ptr id off p,.int _ i=>match arrT P T with
  |some (n,E)=>match szO P E with
   |some z=>{ ok:=0≤i∧i<n∧1<n,v:=.ptr id (off+i.toNat*z) (p++[i.toNat]) }
   |none=>.no
  |none=>.no
 | .eptr id len off p,.int _ i=>match arrT P T,H id with
  |some (n,E),some ⟨some _,_,.agg rows⟩=>match szO P E with
   |some z=>{ ok:=len=rows.length∧0≤i∧i<n∧1<n,v:=.eptr id len (off+i.toNat*z) (p++[i.toNat]) }
   |none=>.no
  |_,_=>.no
 | .own n [.ptr id off p],.int _ i=>match elemT P T with
  |some E=>match szO P E with
   |some z=>{ ok:=0≤i∧i<n,v:=.ptr id (off+i.toNat*z) (p++[i.toNat]) }
   |none=>.no
  |none=>.no
 | .dptr (.agg vs),.int _ i=>match arrT P T with
  |some (n,E)=>match szO P E with
   |some z=>{ ok:=0≤i∧i<n∧1<n∧i<vs.length∧V.szs (vs.take i.toNat)=i.toNat*z,v:=.dptr (getV vs i) }
   |none=>.no
  |none=>.no
 |_,_=>.no
def indexV (P:Program) (T:Nat):V→V→Out
 | .agg vs,.int _ i=>match arrT P T with
  |some (n,E)=>match szO P E with
   |some z=>{ ok:=0≤i∧i<n∧i<vs.length∧V.szs (vs.take i.toNat)=i.toNat*z∧LdOk P E (getV vs i),v:=getV vs i }
   |none=>.no
  |none=>.no
 | .str s,.int _ i=>{ ok:=strT P T=true∧0≤i∧i<s.length,v:=.int .u8 (s.getD i.toNat 0).toNat }
 |_,_=>.no
def fieldV (P:Program) (T k:Nat):V→Out
 | .agg vs=>match fOff P T k,fTy P T k,vs[k]? with
  |some o,some F,some u=>{ ok:=V.szs (vs.take k)=o∧LdOk P F u,v:=u }
  |_,_,_=>.no
 |_=>.no
def extractV (k:Nat):V→Out
 | .tup vs=>match vs[k]? with
  |some u=>{ v:=u }
  |none=>.no
 |_=>.no
def convertV (P:Program) (H:Nat→Option Blk) (g:Bool) (id S D:Nat):V→Out
 | .int _ n=>match kindT P D with
  |some k=>{ ok:=isT P S=true,v:=.int k (k.wrap n) }
  |none=>.no
 | .sl i len=>match Nat.beq S D with
  |true=>match elemT P S,H i with
   |some E,some ⟨some E',false,.agg rows⟩=>{ ok:=kindT P E=some .u8∧len=rows.length∧0<len,v:=.sl i len,hw:=[(i,⟨some E',false,.agg rows⟩)] }
   |_,_=>.no
  |false=>match elemT P S with
   |some E=>{ ok:=kindT P E=some .u8∧szO P E=some 1∧strT P D=true∧(seqOf H (.sl i len)).ok∧(∀v∈(seqOf H (.sl i len)).vs,isByte v),v:=.str ((seqOf H (.sl i len)).vs.map byteV) }
   |none=>.no
 | .str s=>match elemT P D with
  |some E=>if g then { ok:=isT P S=true∧kindT P E=some .u8∧szO P E=some 1,v:=.list false (s.map fun b=>.int .u8 b.toNat) }
   else { ok:=isT P S=true∧kindT P E=some .u8∧szO P E=some 1,v:=.sl id s.length,hw:=[(id,⟨some E,false,.agg (s.map fun b=>.int .u8 b.toNat)⟩)] }
  |none=>{ ok:=isT P S=true∧strT P D=true,v:=.str s }
 |x=>match elemT P S with
  |some E=>{ ok:=kindT P E=some .u8∧szO P E=some 1∧strT P D=true∧(seqOf H x).ok∧(x≠.junk)∧(∀v∈(seqOf H x).vs,isByte v),v:=.str ((seqOf H x).vs.map byteV) }
  |none=>.no
def loV:Option V→Int
 |some (.int _ i)=>i
 |_=>0
def hiV (n:Nat):Option V→Int
 |some (.int _ i)=>i
 |_=>n
def isIntO:Option V→Prop
 |some (.int _ _)=>True
 |some _=>False
 |none=>True
mutual
def V.ints:V→Bool
 | .int _ _=>true
 | .bool _=>true
 | .agg vs=>V.intss vs
 |_=>false
def V.intss:List V→Bool
 |[]=>true
 |v::r=>match V.ints v with
  |true=>V.intss r
  |false=>false
end
theorem intss_get:∀{vs:List V} {i:Nat} {v:V},V.intss vs=true→vs[i]? =some v→v.ints=true
 |[],i,v,_,h=>by simp at h
 |x::r,i,v,h,hv=>by
  simp only [V.intss] at h
  split at h
  ·rename_i hx
   cases i with
   |zero=>simp at hv;rw [←hv];exact hx
   |succ i=>exact intss_get h (by simpa using hv)
  ·cases h
def sliceArr (P:Program) (H:Nat→Option Blk) (T:Nat) (lo hi mx:Option V) (id off:Nat) (p:List Nat):Out:=match arrT P T with
 |some (n,E)=>match H id with
  |some ⟨none,_,t⟩=>match t.sub p with
   |some (.agg xs)=>{ ok:=lo=none∧mx=none∧isIntO hi∧0≤hiV n hi∧hiV n hi≤n∧n=xs.length∧n≤lenMax∧t.off p=off∧V.intss xs=true∧szO P E=some (P.cellsOf E)∧∀v∈xs,v.sz=P.cellsOf E,v:=.list false (xs.take (hiV n hi).toNat),hw:=frz H [id] }
   |_=>.no
  |_=>.no
 |none=>.no
def sliceView (P:Program) (T:Nat) (lo hi mx:Option V) (id off:Nat) (p:List Nat):Out:=match arrT P T with
 |some (n,E)=>{ ok:=lo=none∧mx=none∧isIntO hi∧0≤hiV n hi∧hiV n hi≤n∧n≤lenMax∧szO P E=some (P.cellsOf E),v:=.own (hiV n hi).toNat [.ptr id off p] }
 |none=>.no
def sliceSl (P:Program) (H:Nat→Option Blk) (T:Nat) (lo hi mx:Option V) (i len:Nat):Out:=match elemT P T with
 |some E=>match H i with
  |some ⟨some E',_,.agg rows⟩=>{ ok:=len=rows.length∧E=E'∧mx=none∧isIntO lo∧isIntO hi∧0≤loV lo∧loV lo<len∧loV lo≤hiV len hi∧hiV len hi≤len∧szO P E=some (P.cellsOf E),v:=.own ((hiV len hi).toNat-(loV lo).toNat) [.eptr i len ((loV lo).toNat*P.cellsOf E) [(loV lo).toNat]] }
  |_=>.no
 |none=>.no
def sliceV (P:Program) (H:Nat→Option Blk) (T:Nat) (lo hi mx:Option V):V→Out
 | .ptr id off p=>match Nat.ble 1000 id with
  |true=>sliceArr P H T lo hi mx id off p
  |false=>sliceView P T lo hi mx id off p
 | .sl i len=>sliceSl P H T lo hi mx i len
 | .str s=>{ ok:=strT P T=true∧mx=none∧isIntO lo∧isIntO hi∧0≤loV lo∧loV lo≤hiV s.length hi∧hiV s.length hi≤s.length,v:=.str ((s.drop (loV lo).toNat).take (hiV s.length hi-loV lo).toNat) }
 |x=>match elemT P T with
  |some E=>{ ok:=(seqOf H x).ok∧x.isAgg=false∧isIntO lo∧isIntO hi∧isIntO mx∧(mx≠none→hi≠none∧hiV 0 mx=hiV 0 hi)∧0≤loV lo∧loV lo≤hiV (seqOf H x).vs.length hi∧hiV (seqOf H x).vs.length hi≤(seqOf H x).vs.length∧(szO P E=some (P.cellsOf E))∧∀v∈(seqOf H x).vs,v.sz=P.cellsOf E,v:=.list mx.isSome (((seqOf H x).vs.drop (loV lo).toNat).take (hiV (seqOf H x).vs.length hi-loV lo).toNat),hw:=frz H (pureV H x).fz }
  |none=>.no
def putParts (P:Program) (off:Nat→Option Nat) (szp:Nat→Option Nat):List (Nat×V)→List V→Prop×List V
 |[],vs=>(True,vs)
 |(k,x)::r,vs=>match vs[k]?,off k,szp k with
  |some z,some o,some s=>((o=V.szs (vs.take k)∧s=x.sz∧x.sz=z.sz∧x.boxy=true)∧(putParts P off szp r (vs.set k x)).1,(putParts P off szp r (vs.set k x)).2)
  |_,_,_=>(False,vs)
def fldsOk (P:Program) (T:Nat):Bool:=match P.underlying T with
 |some (.struct fs)=>fs.toList.all fun f=>(szO P f.type).isSome
 |_=>false
def buildV (P:Program) (T:Nat) (parts:List (Nat×V)):Out:=
 match zeroT P T with
 | .agg zs=>match arrT P T with
  |some (n,E)=>match szO P E with
   |some z=>{ ok:=zeroOk P T (.agg zs)=true∧(putParts P (fun k=>some (k*z)) (fun _=>some z) parts zs).1,v:=.agg (putParts P (fun k=>some (k*z)) (fun _=>some z) parts zs).2 }
   |none=>.no
  |none=>{ ok:=zeroOk P T (.agg zs)=true∧fldsOk P T=true∧(putParts P (fOff P T) (fun k=>(fTy P T k).bind (szO P)) parts zs).1,v:=.agg (putParts P (fOff P T) (fun k=>(fTy P T k).bind (szO P)) parts zs).2 }
 |_=>.no
def buildSliceV (P:Program) (H:Nat→Option Blk) (T n:Nat) (parts:List (Nat×V)):Out:=
 match elemT P T with
 |some E=>match szO P E with
  |some z=>{ ok:=n*z≤16777216∧n≤lenMax∧0<z∧zeroOk P E (zeroT P E)=true∧(pureVs H (parts.map (·.2))).1∧(putParts P (fun k=>some (k*z)) (fun _=>some z) ((parts.map (·.1)).zip (pureVs H (parts.map (·.2))).2.1) (List.replicate n (zeroT P E))).1,v:=.list true (putParts P (fun k=>some (k*z)) (fun _=>some z) ((parts.map (·.1)).zip (pureVs H (parts.map (·.2))).2.1) (List.replicate n (zeroT P E))).2,hw:=frz H (pureVs H (parts.map (·.2))).2.2 }
  |none=>.no
 |none=>.no
def buildOwnV (P:Program) (H:Nat→Option Blk) (id T n:Nat) (parts:List (Nat×V)):Out:=
 match elemT P T with
 |some E=>match szO P E with
  |some z=>{ ok:=(n*z≤16777216∧n≤lenMax∧0<z∧zeroOk P E (zeroT P E)=true∧(pureVs H (parts.map (·.2))).1∧(putParts P (fun k=>some (k*z)) (fun _=>some z) ((parts.map (·.1)).zip (pureVs H (parts.map (·.2))).2.1) (List.replicate n (zeroT P E))).1)∧(pureVs H (parts.map (·.2))).2.2=[],v:=.sl id n,hw:=[(id,⟨some E,false,.agg (putParts P (fun k=>some (k*z)) (fun _=>some z) ((parts.map (·.1)).zip (pureVs H (parts.map (·.2))).2.1) (List.replicate n (zeroT P E))).2⟩)] }
  |none=>.no
 |none=>.no
def isU8:Option IntKind→Bool
 |some .u8=>true
 |some .i64=>true
 |_=>false
def ownB (P:Program) (g:Bool) (T n:Nat):Bool:=match g with
 |true=>false
 |false=>match n with
  |0=>true
  |_=>match elemT P T with
   |some E=>isU8 (kindT P E)
   |none=>false
def lenV (H:Nat→Option Blk) (P:Program) (T:Nat) (x:V):Out:=
 match x with
 | .agg vs=>match arrT P T with
  |some (n,_)=>{ v:=.int .i64 n }
  |none=>.no
 | .str s=>{ ok:=strT P T=true,ln:=s.length≤lenMax,v:=.int .i64 s.length }
 | .own n l=>match l with
  |[.ptr _ _ _]=>{ ok:=(elemT P T).isSome=true,v:=.int .i64 n }
  |l=>match mapT P T with
   |some _=>match mapEs H (.own n l) with
    |some es=>{ ln:=es.length≤lenMax,v:=.int .i64 es.length }
    |none=>.no
   |none=>.no
 |x=>{ ok:=(elemT P T).isSome=true∧(seqOf H x).ok,ln:=(seqOf H x).vs.length≤lenMax,v:=.int .i64 (seqOf H x).vs.length }
def minmaxV (mx:Bool):List V→Out
 |[.int k x,.int j y]=>{ v:=.int k (if mx then (if y>x then y else x) else (if y<x then y else x)) }
 |[.int k x,.int _ y,.int _ z]=>{ v:=.int k (if mx then (if z>(if y>x then y else x) then z else (if y>x then y else x)) else (if z<(if y<x then y else x) then z else (if y<x then y else x))) }
 |[.int k x,.int _ y,.int _ z,.int _ u]=>{ ok:=mx=true,v:=.int k (max (max (max x y) z) u) }
 |_=>.no
def allocV (P:Program) (id T:Nat):Out:=
 { ok:=zeroOk P T (zeroT P T)=true,v:=.ptr id 0 [],hw:=[(id,⟨none,false,zeroT P T⟩)] }
def boxV (P:Program) (id T:Nat) (x:V):Out:=
 { ok:=x.boxy=true,v:=.ptr id 0 [],hw:=[(id,⟨none,false,x⟩)] }
def storeV (P:Program) (H:Nat→Option Blk) (T:Nat) (x:V):V→Out
 | .ptr id off p=>match H id with
  |some ⟨none,false,t⟩=>match t.sub p with
   |some u=>{ ok:=t.off p=off∧x.boxy=true∧x.sz=u.sz∧szO P T=some x.sz,hw:=[(id,⟨none,false,V.upd x t p⟩)] }
   |none=>.no
  |_=>.no
 | .eptr id len off p=>match H id with
  |some ⟨some E,false,.agg rows⟩=>match (V.agg rows).sub p with
   |some u=>{ ok:=len=rows.length∧p≠[]∧(V.agg rows).off p=off∧(pureV H x).ok∧(pureV H x).v.sz=u.sz∧x.sz=u.sz∧szO P T=some x.sz∧id∉(pureV H x).fz,hw:=(id,⟨some E,false,V.upd (pureV H x).v (.agg rows) p⟩)::frz H (pureV H x).fz }
   |none=>.no
  |_=>.no
 |_=>.no
def makeSliceV (P:Program) (g:Bool) (id T:Nat):V→V→Out
 | .int _ n,.int _ c=>match elemT P T with
  |some E=>match byO P E with
   |some by_=>if g then { ok:=0≤n∧n≤c∧c≤lenMax∧by_*c≤281474976710656∧zeroOk P E (zeroT P E)=true,v:=.list false (List.replicate n.toNat (zeroT P E)) }
    else { ok:=0≤n∧n≤c∧c≤lenMax∧by_*c≤281474976710656∧zeroOk P E (zeroT P E)=true,v:=.sl id n.toNat,hw:=[(id,⟨some E,false,.agg (List.replicate n.toNat (zeroT P E))⟩)] }
   |none=>.no
  |none=>.no
 |_,_=>.no
def roomOk (P:Program) (E n:Nat):Prop:=∃b,byO P E=some b∧n*b≤140737488355328∧n≤lenMax
def appSrc (P:Program) (H:Nat→Option Blk) (T T2:Nat) (y:V):Sq:=
 match kindT P T2 with
 |some _=>match y,elemT P T with
  | .int .i64 n,some E=>⟨0≤n∧n≤lenMax,List.replicate n.toNat (zeroT P E)⟩
  |_,_=>⟨False,[]⟩
 |none=>⟨((elemT P T2).isSome||strT P T2)=true∧(seqOf H y).ok,(seqOf H y).vs⟩
def appendV (P:Program) (H:Nat→Option Blk) (id T T2:Nat) (y:V):V→Out
 | .nils=>match elemT P T with
  |some E=>{ ok:=(appSrc P H T T2 y).ok∧(∀v∈(appSrc P H T T2 y).vs,v.sz=P.cellsOf E)∧szO P E=some (P.cellsOf E)∧zeroOk P E (zeroT P E)=true∧roomOk P E (appSrc P H T T2 y).vs.length,v:=.sl id (appSrc P H T T2 y).vs.length,hw:=[(id,⟨some E,false,.agg (appSrc P H T T2 y).vs⟩)] }
  |none=>.no
 | .list true vs=>match elemT P T with
  |some E=>{ ok:=(appSrc P H T T2 y).ok∧(appSrc P H T T2 y).vs≠[]∧(∀v∈vs++(appSrc P H T T2 y).vs,v.sz=P.cellsOf E)∧szO P E=some (P.cellsOf E)∧zeroOk P E (zeroT P E)=true∧roomOk P E (vs.length+(appSrc P H T T2 y).vs.length),v:=.sl id (vs.length+(appSrc P H T T2 y).vs.length),hw:=[(id,⟨some E,false,.agg (vs++(appSrc P H T T2 y).vs)⟩)] }
  |none=>.no
 | .sl i len=>match elemT P T,H i with
  |some E,some ⟨some E',false,.agg rows⟩=>
   { ok:=len=rows.length∧E=E'∧(appSrc P H T T2 y).ok∧(∀v∈(appSrc P H T T2 y).vs,v.sz=P.cellsOf E)∧szO P E=some (P.cellsOf E)∧zeroOk P E (zeroT P E)=true∧roomOk P E (len+(appSrc P H T T2 y).vs.length),v:=.sl i (rows.length+(appSrc P H T T2 y).vs.length),hw:=[(i,⟨some E,false,.agg (rows++(appSrc P H T T2 y).vs)⟩)] }
  |_,_=>.no
 |_=>.no
def appendFV (P:Program) (H:Nat→Option Blk) (T T2:Nat) (y:V):V→Out
 | .sl i len=>match elemT P T,H i with
  |some E,some ⟨some E',false,.agg rows⟩=>
   { ok:=len=rows.length∧E=E'∧(appSrc P H T T2 y).ok∧(appSrc P H T T2 y).vs≠[]∧(∀v∈(appSrc P H T T2 y).vs,v.sz=P.cellsOf E)∧szO P E=some (P.cellsOf E)∧zeroOk P E (zeroT P E)=true∧roomOk P E (len+(appSrc P H T T2 y).vs.length),v:=.list false (rows++(appSrc P H T T2 y).vs),hw:=[(i,⟨some E,true,.agg rows⟩)] }
  |_,_=>.no
 |_=>.no
def lastI:V→Bool
 | .list true l=>match l with
  |[.agg l2]=>match l2 with
   |[.int .i64 n,.list false l3]=>match l3 with
    |[]=>n==3
    |_::_=>false
   |_=>false
  |_=>false
 |_=>false
def copyView (P:Program) (H:Nat→Option Blk) (T:Nat) (y:V) (n:Nat) (l:List V):Out:=match l with
 |[.eptr i len off [a]]=>match y with
  | .own m l2=>match l2 with
   |[.eptr j len2 off2 [b]]=>match elemT P T,H i with
    |some E,some ⟨some E',false,.agg rows⟩=>
     { ok:=j=i∧len=rows.length∧len2=len∧E=E'∧rows≠[]∧off=a*P.cellsOf E∧off2=b*P.cellsOf E∧a+n≤rows.length∧b+m≤rows.length∧szO P E=some (P.cellsOf E),v:=.int .i64 (min m n:Nat),hw:=[(i,⟨some E,false,.agg (rows.take a++(rows.drop b).take (min m n)++rows.drop (a+min m n))⟩)] }
    |_,_=>.no
   |_=>.no
  |_=>.no
 |_=>.no
def copyV (P:Program) (H:Nat→Option Blk) (T:Nat) (y:V):V→Out
 | .sl i len=>match elemT P T,H i with
  |some E,some ⟨some E',false,.agg rows⟩=>
   { ok:=len=rows.length∧E=E'∧szO P E=some (P.cellsOf E)∧(seqOf H y).ok∧(∀v∈(seqOf H y).vs,v.sz=P.cellsOf E)∧(∀j,y≠.sl i j)∧(∀s,y≠.str s),v:=.int .i64 (min (seqOf H y).vs.length rows.length:Nat),hw:=[(i,⟨some E,false,.agg ((seqOf H y).vs.take rows.length++rows.drop (seqOf H y).vs.length)⟩)] }
  |_,_=>.no
 | .own n l=>copyView P H T y n l
 |_=>.no
def builtinV (P:Program) (H:Nat→Option Blk) (id:Nat) (b:Builtin) (tys:List Nat) (xs:List V):Out:=
 match b,tys,xs with
 | .len,T::_,x::_=>lenV H P T x
 | .append,[T,T2],[x,y]=>match lastI y with
  |true=>appendFV P H T T2 y x
  |false=>appendV P H id T T2 y x
 | .copy,[T,_],[x,y]=>copyV P H T y x
 | .min,_,xs=>minmaxV false xs
 | .max,_,xs=>minmaxV true xs
 | .delete,[T,_],[x,k]=>delMap P H T k x
 |_,_,_=>.no
def outOp (P:Program) (H:Nat→Option Blk) (g:Bool) (id:Nat) (ρ:Operand→V):Op→Out
 | .move x| .assign x=>{ v:=ρ x }
 | .alloc T=>allocV P id T
 | .box T x=>boxV P id T (ρ x)
 | .build T ps=>buildV P T (ps.toList.map fun p=>(p.1,ρ p.2))
 | .buildSlice T n ps=>match ownB P g T n with
  |true=>buildOwnV P H id T n (ps.toList.map fun p=>(p.1,ρ p.2))
  |false=>buildSliceV P H T n (ps.toList.map fun p=>(p.1,ρ p.2))
 | .load T a=>loadV P H T (ρ a)
 | .store T a x=>storeV P H T (ρ x) (ρ a)
 | .nilCheck x=>match ρ x with
  | .ptr id off p=>{ v:=.ptr id off p }
  | .eptr i len off p=>match H i with
   |some ⟨some _,_,.agg rows⟩=>{ ok:=len=rows.length,v:=.eptr i len off p }
   |_=>.no
  | .dptr v=>{ v:=.dptr v }
  | .fn f caps=>{ v:=.fn f caps }
  |_=>.no
 | .binOp op T x y _=>binV P op T (ρ x) (ρ y)
 | .unOp op _ x=>unV op (ρ x)
 | .convert s d x=>convertV P H g id s d (ρ x)
 | .makeFunc (.func f) first caps=>{ ok:=first.size=0∧∀v∈caps.toList.map ρ,v.boxy=true∧v.isAgg=false,v:=.fn f (caps.toList.map ρ) }
 | .makeSlice T n c=>makeSliceV P g id T (ρ n) (ρ c)
 | .slice T x lo hi mx=>sliceV P H T (lo.map ρ) (hi.map ρ) (mx.map ρ) (ρ x)
 | .fieldAddr T x k=>fieldAddrV P H T k (ρ x)
 | .field T x k=>fieldV P T k (ρ x)
 | .indexAddr T x i=>indexAddrV P H T (ρ x) (ρ i)
 | .index T x i=>indexV P T (ρ x) (ρ i)
 | .extract t k=>extractV k (ρ t)
 | .makeMap T r=>makeMapV id T r
 | .lookup T x k ok=>lookupV P H T (ρ x) (ρ k) ok
 | .mapUpdate T m k x=>updMap P H T (ρ k) (ρ x) (ρ m)
 | .call { callee:=.builtin b,args:=xs,argTypes:=tys }=>builtinV P H id b tys.toList (xs.toList.map ρ)
 |_=>.no
open Go
theorem setCell_heap {w:World} {b o:Nat} {v:Value} {cs:Array Value} {ty:Nat} {fr:Nat×Nat} (h:w.heap[b]? =some (.cells cs ty fr)):
  (w.setCell ⟨b,o,none⟩ v).heap[b]? =some (.cells (cs.setIfInBounds o v) ty fr):=by
 have hb:b<w.heap.size:=(Array.getElem?_eq_some_iff.1 h).1
 have he:w.heap[b]=.cells cs ty fr:=(Array.getElem?_eq_some_iff.1 h).2
 simp [World.setCell,Array.getElem?_modify,h]
theorem setCell_heap_ne {w:World} {b o k:Nat} {v:Value} (h:k≠b):(w.setCell ⟨b,o,none⟩ v).heap[k]? =w.heap[k]?:=by
 simp [World.setCell,Array.getElem?_modify,Ne.symm h]
theorem setCell_size {w:World} {a:Addr} {v:Value}:(w.setCell a v).heap.size=w.heap.size:=by simp [World.setCell]
theorem setCells_heap (b:Nat):∀(vs:List Value) (o:Nat) (w:World) (cs:List Value) (ty:Nat) (fr:Nat×Nat),w.heap[b]? =some (.cells cs.toArray ty fr)→
  o+vs.length≤cs.length→
  (w.setCells b o vs).heap[b]? =some (.cells (cs.take o++vs++cs.drop (o+vs.length)).toArray ty fr):=by
 intro vs
 induction vs with
 |nil=>intro o w cs ty fr h hl;simp [World.setCells,h]
 |cons v r ih=>
  intro o w cs ty fr h hl
  simp only [List.length_cons] at hl
  rw [World.setCells]
  have h1:=setCell_heap (o:=o) (v:=v) h
  have e:cs.toArray.setIfInBounds o v=(cs.set o v).toArray:=by simp
  rw [e] at h1
  rw [ih (o+1) _ (cs.set o v) ty fr h1 (by simp;omega)]
  congr 3
  have hset:cs.set o v=cs.take o++v::cs.drop (o+1):=List.set_eq_take_append_cons_drop▸(by simp [show o<cs.length by omega])
  rw [hset]
  have hlen:(cs.take o).length=o:=by simp;omega
  rw [List.take_append,List.drop_append,hlen]
  simp only [show o+1-o=1 by omega,List.take_succ_cons,List.take_zero,show o+1+r.length-o=r.length+1 by omega,List.drop_succ_cons,List.drop_drop,List.length_cons]
  rw [List.take_of_length_le (by rw [hlen];omega),List.drop_of_length_le (l:=cs.take o) (by rw [hlen];omega)]
  simp [show o+(r.length+1)=o+1+r.length by omega]
theorem setCells_heap_ne (b:Nat):∀(vs:List Value) (o:Nat) (w:World) (k:Nat),k≠b→(w.setCells b o vs).heap[k]? =w.heap[k]?
 |[],o,w,k,h=>rfl
 |v::r,o,w,k,h=>by rw [World.setCells,setCells_heap_ne b r _ _ k h,setCell_heap_ne h]
theorem setCells_size (b:Nat):∀(vs:List Value) (o:Nat) (w:World),(w.setCells b o vs).heap.size=w.heap.size
 |[],o,w=>rfl
 |v::r,o,w=>by rw [World.setCells,setCells_size b r,setCell_size]
theorem blk_cell {w:World} {b:Nat} {cs:List Value} (h:BlkAt w b cs) (j:Nat):w.cell? ⟨b,j,none⟩=cs[j]?:=by
 obtain ⟨ty,fr,h1,h2,h3⟩:=h
 simp [World.cell?,h1]
theorem blk_frozen {w:World} {b:Nat} {cs:List Value} (h:BlkAt w b cs) (j:Nat) (hj:j<cs.length):w.frozen? ⟨b,j,none⟩=false:=by
 obtain ⟨ty,fr,h1,h2,h3⟩:=h
 have:=h2.2 j hj
 simp only [World.frozen?,h1]
 simp only [Bool.and_eq_false_iff,decide_eq_false_iff_not]
 omega
theorem blk_keep {w w':World} {b:Nat} {cs:List Value} (h:BlkAt w b cs) (hk:w'.heap[b]? =w.heap[b]?):BlkAt w' b cs:=by
 obtain ⟨ty,fr,h1,h2,h3⟩:=h
 exact ⟨ty,fr,hk.trans h1,h2,h3⟩
theorem blk_put {w:World} {b o:Nat} {cs vs:List Value} (h:BlkAt w b cs) (hl:o+vs.length≤cs.length) (hv:∀v∈vs,isCell v=true):
  BlkAt (w.setCells b o vs) b (cs.take o++vs++cs.drop (o+vs.length)):=by
 obtain ⟨ty,fr,h1,h2,h3⟩:=h
 refine ⟨ty,fr,setCells_heap b vs o w cs ty fr h1 hl, ?_, ?_⟩
 ·have e:(cs.take o++vs++cs.drop (o+vs.length)).length=cs.length:=by simp;omega
  rw [e];exact h2
 ·intro c hc
  simp only [List.mem_append] at hc
  rcases hc with (hc|hc)|hc
  ·exact h3 c (List.mem_of_mem_take hc)
  ·exact hv c hc
  ·exact h3 c (List.mem_of_mem_drop hc)
theorem addr_add (b o j:Nat):(⟨b,o,none⟩:Addr).add j=⟨b,o+j,none⟩:=by unfold Addr.add;split<;>simp_all
theorem run_loadCells_at {P:Program} {w:World} {b o:Nat} {cs:List Value} (h:cellsAt w b o cs):
  (loadCells ⟨b,o,none⟩ cs.length).run P w=.ok cs.toArray w:=
 run_loadCells_list w _ cs fun j v hv=>by rw [addr_add];exact h j v hv
theorem run_storeCells_blk {P:Program} {w:World} {b o:Nat} {cs vs:List Value} (h:BlkAt w b cs) (hl:o+vs.length≤cs.length) (hv:∀v∈vs,isCell v=true):
  (storeCells ⟨b,o,none⟩ vs 0).run P w=.ok () (w.setCells b o vs):=by
 have:=run_storeCells_cells (P:=P) b o vs 0 w (fun j hj=>by
   rw [show o+0+j=o+j by omega,blk_cell h];simp;omega) (fun j hj=>by
   rw [show o+0+j=o+j by omega];exact blk_frozen h _ (by omega)) hv
 simpa using this
section
variable {P:Program} {w:World} {T:Nat}
theorem info_of_sz {n:Nat} (h:szO P T=some n):∃i,P.info? T=some i∧i.size=n:=by
 unfold szO at h
 cases hi:P.info? T with
 |none=>simp [hi] at h
 |some i=>exact ⟨i,rfl,by simpa [hi] using h⟩
theorem cellsOf_sz {n:Nat} (h:szO P T=some n):P.cellsOf T=n:=by
 obtain ⟨i,hi,e⟩:=info_of_sz h
 simp [Program.cellsOf,hi,e]
theorem run_sz {n:Nat} (h:szO P T=some n):(Go.sizeOf T).run P w=.ok n w:=by
 obtain ⟨i,hi,e⟩:=info_of_sz h
 rw [run_sizeOf w hi,cellsOf_sz h]
theorem run_und {d:TypeDesc} (h:P.underlying T=some d):(underlying T).run P w=.ok d w:=run_underlying h w
theorem und_of_agg {b:Bool} (h:aggT P T=some b):∃d,P.underlying T=some d∧isAggD d=b:=by
 unfold aggT at h
 cases hu:P.underlying T with
 |none=>simp [hu] at h
 |some d=>exact ⟨d,rfl,by simpa [hu] using h⟩
theorem run_agg {b:Bool} (h:aggT P T=some b):(isAgg T).run P w=.ok b w:=by
 obtain ⟨d,hu,hd⟩:=und_of_agg h
 unfold isAgg
 rw [Sem.run_bind,run_und hu]
 simp only [Result.andThen_ok]
 subst hd
 cases d<;>rfl
theorem run_loadVar_at {b o:Nat} {cs:List Value} {g:Bool} (hc:cellsAt w b o cs) (hs:szO P T=some cs.length) (ha:aggT P T=some g)
  (h1:g=false→cs.length=1):
  ∃v,(loadVar T ⟨b,o,none⟩).run P w=.ok v w∧if g then v=.agg cs.toArray else cs=[v]:=by
 unfold loadVar
 simp only [Sem.run_bind,run_agg ha,Result.andThen_ok]
 cases g with
 |true=>
  refine ⟨.agg cs.toArray, ?_,rfl⟩
  simp only [if_true,Sem.run_bind,run_sz hs,Result.andThen_ok,run_loadCells_at hc,Sem.run_pure]
 |false=>
  obtain ⟨v,rfl⟩:∃v,cs=[v]:=by
   have:=h1 rfl
   match cs,this with
   |[v],_=>exact ⟨v,rfl⟩
  refine ⟨v, ?_,rfl⟩
  have:=hc 0 v rfl
  simp only [Nat.add_zero] at this
  simp [this]
theorem run_storeVar_blk {b o:Nat} {cs vs:List Value} {v:Value} (h:BlkAt w b cs) (hl:o+vs.length≤cs.length) (hv:∀v∈vs,isCell v=true)
  (hs:szO P T=some vs.length) (hvs:v.cells.toList=vs):(storeVar T ⟨b,o,none⟩ v).run P w=.ok () (w.setCells b o vs):=by
 unfold storeVar
 have e:v.cells.size=vs.length:=by rw [←hvs];simp
 simp only [Sem.run_bind,run_sz hs,Result.andThen_ok,e,ne_eq,not_true_eq_false,if_false,Sem.run_pure,hvs]
 exact run_storeCells_blk h hl hv
end
open Go
structure MGo (U:Nat→Prop) (I I':Nat→Prop) (ι ι':Nat→Option Img) (H H':Nat→Option Blk) (w w':World):Prop where
 kI:keep I w w'
 kU:∀b,¬U b→w'.heap[b]? =w.heap[b]?
 sub:∀b,I b→I' b
 hgo:HGo ι ι' H H'
 siz:w.heap.size≤w'.heap.size
 os:w'.os=w.os
 tape:w'.tape=w.tape
 output:w'.output=w.output
theorem MGo.refl {U I:Nat→Prop} {ι:Nat→Option Img} {H:Nat→Option Blk} {w:World}:MGo U I I ι ι H H w w:=
 ⟨keep.refl _,fun _ _=>rfl,fun _ h=>h,HGo.refl,Nat.le_refl _,rfl,rfl,rfl⟩
theorem HGo.trans {ι ι1 ι2:Nat→Option Img} {H H1 H2:Nat→Option Blk} (h:HGo ι ι1 H H1) (h':HGo ι1 ι2 H1 H2):HGo ι ι2 H H2:=by
 intro id img hi
 obtain ⟨img1,a1,a2,a3⟩:=h id img hi
 obtain ⟨img2,b1,b2,b3⟩:=h' id img1 a1
 refine ⟨img2,b1,fun ha=>?_,fun E fz rows hr=>?_⟩
 ·have e:=a2 ha;subst e;exact b2 ha
 ·obtain ⟨E1,fz1,rows1,r1,r2,r3⟩:=b3 E fz rows hr
  obtain ⟨E0,fz0,rows0,s1,s2,s3⟩:=a3 E1 fz1 rows1 r1
  refine ⟨E0,fz0,rows0,s1,by omega,fun hl=>?_⟩
  rw [r3 (by omega),s3 (by omega)]
theorem MGo.trans {U I I1 I2:Nat→Prop} {ι ι1 ι2:Nat→Option Img} {H H1 H2:Nat→Option Blk} {w w1 w2:World}
  (h:MGo U I I1 ι ι1 H H1 w w1) (h':MGo U I1 I2 ι1 ι2 H1 H2 w1 w2):MGo U I I2 ι ι2 H H2 w w2:=
 ⟨fun b hb=>(h'.kI b (h.sub b hb)).trans (h.kI b hb),fun b hb=>(h'.kU b hb).trans (h.kU b hb),fun b hb=>h'.sub b (h.sub b hb),
  h.hgo.trans h'.hgo,Nat.le_trans h.siz h'.siz,h'.os.trans h.os,h'.tape.trans h.tape,h'.output.trans h.output⟩
theorem MGo.slot {U I I':Nat→Prop} {ι ι':Nat→Option Img} {H H':Nat→Option Blk} {w w':World} (h:MGo U I I' ι ι' H H' w w') {v:V} {cv:Value}
  (hs:Slot w I ι H v cv):Slot w' I' ι' H' v cv:=Slot.mono h.kI h.sub h.hgo hs
def over (H:Nat→Option Blk) (hw:List (Nat×Blk)):Nat→Option Blk:=fun id=>match look hw id with
 |some b=>some b
 |none=>H id
@[simp] theorem over_nil (H:Nat→Option Blk):over H []=H:=rfl
theorem look_append {α:Type} (a b:List (Nat×α)) (t:Nat):look (a++b) t=match look a t with|some x=>some x|none=>look b t:=by
 induction a with
 |nil=>rfl
 |cons x r ih=>
  obtain ⟨k,v⟩:=x
  simp only [List.cons_append,look]
  split
  ·rfl
  ·exact ih
def Does (P:Program) (U I0:Nat→Prop) (H:Nat→Option Blk) (w:World) (I:Nat→Prop) (ι:Nat→Option Img) (id:Nat) (o:Out) (s:Sem Next):Prop:=
 ∃n cv w' I' ι',s.run P w=.ok n w'∧(n=.value cv∨(n=.skip∧cv=undef))∧o.ln∧Slot w' I' ι' (over H o.hw) o.v cv∧
  MRel P U I0 (over H o.hw) w' I' ι'∧MGo U I I' ι ι' H (over H o.hw) w w'∧(∀j,j≠id→ι j=none→ι' j=none)
section
variable {P:Program} {U I0:Nat→Prop} {H:Nat→Option Blk} {w:World} {I:Nat→Prop} {ι:Nat→Option Img} {id:Nat}
theorem does_pure {s:Sem Value} {cv:Value} {v:V} {ok ln:Prop} (hm:MRel P U I0 H w I ι) (hr:s.run P w=.ok cv w) (hl:ln) (hs:Slot w I ι H v cv):
  Does P U I0 H w I ι id ⟨ok,ln,v,[]⟩ (do pure (.value (←s))):=
 ⟨.value cv,cv,w,I,ι,by simp [hr],.inl rfl,hl,hs,hm,MGo.refl,fun _ _ h=>h⟩
theorem does_value {cv:Value} {v:V} {ok ln:Prop} (hm:MRel P U I0 H w I ι) (hl:ln) (hs:Slot w I ι H v cv):
  Does P U I0 H w I ι id ⟨ok,ln,v,[]⟩ (pure (.value cv)):=
 ⟨.value cv,cv,w,I,ι,rfl,.inl rfl,hl,hs,hm,MGo.refl,fun _ _ h=>h⟩
theorem Rep.int_inv {k:IntKind} {n:Int} {cs:List Value} (h:Rep w I ι H (.int k n) cs):cs=[.int k n]:=by
 cases h with
 |imm h=>cases h;rfl
theorem Rep.bool_inv {b:Bool} {cs:List Value} (h:Rep w I ι H (.bool b) cs):cs=[.bool b]:=by
 cases h with
 |imm h=>cases h;rfl
theorem Rep.str_inv {s:List UInt8} {cs:List Value} (h:Rep w I ι H (.str s) cs):cs=[.string ⟨s.toArray⟩]∧s.length≤lenMax:=by
 cases h with
 |imm h=>cases h with|str h=>exact ⟨rfl,h⟩
theorem Rep.nils_inv {cs:List Value} (h:Rep w I ι H .nils cs):cs=[.slice none 0 0]:=by
 cases h with
 |imm h=>cases h;rfl
theorem Rep.nilp_inv {cs:List Value} (h:Rep w I ι H .nilp cs):cs=[.pointer none]:=by
 cases h with
 |imm h=>cases h;rfl
theorem Rep.list_inv {c:Bool} {vs:List V} {cs:List Value} (h:Rep w I ι H (.list c vs) cs):Imm w I (.list c vs) cs:=by
 cases h with
 |imm h=>exact h
theorem Rep.dptr_inv {v:V} {cs:List Value} (h:Rep w I ι H (.dptr v) cs):∃b off l,cs=[.pointer (some ⟨b,off,none⟩)]∧I b∧cellsAt w b off l∧Imm w I v l:=by
 cases h with
 |imm h=>cases h with|dptr a b c=>exact ⟨_,_,_,rfl,a,b,c⟩
theorem Rep.ptr_inv {id off:Nat} {p:List Nat} {cs:List Value} (h:Rep w I ι H (.ptr id off p) cs):∃b cap,ι id=some ⟨some b,cap,false⟩∧cs=[.pointer (some ⟨b,off,none⟩)]:=by
 cases h with
 |imm h=>cases h
 |ptr h=>exact ⟨_,_,h,rfl⟩
theorem Rep.own_inv {e id off:Nat} {p:List Nat} {cs:List Value} (h:Rep w I ι H (.own e [.ptr id off p]) cs):∃b cap c2,ι id=some ⟨some b,cap,false⟩∧cs=[.slice (some ⟨b,off,none⟩) e c2]:=by
 cases h with
 |imm h=>cases h
 |own h=>exact ⟨_,_,_,h,rfl⟩
theorem Rep.sl_inv {id len:Nat} {cs:List Value} (h:Rep w I ι H (.sl id len) cs):∃c img,cs=[c]∧ι id=some img∧
  (∀E fz rows,H id=some ⟨some E,fz,.agg rows⟩→len≤rows.length∧(len=rows.length→c=.slice (img.b.map (⟨·,0,none⟩)) len img.cap)):=by
 cases h with
 |imm h=>cases h
 |sl a b c=>exact ⟨_,_,rfl,b,c⟩
theorem Rep.eptr_inv {id len off:Nat} {p:List Nat} {cs:List Value} (h:Rep w I ι H (.eptr id len off p) cs):∃c img,cs=[c]∧ι id=some img∧
  (∀E fz rows,H id=some ⟨some E,fz,.agg rows⟩→len≤rows.length∧(len=rows.length→∃b,img.b=some b∧c=.pointer (some ⟨b,off,none⟩))):=by
 cases h with
 |imm h=>cases h
 |eptr a b c=>exact ⟨_,_,rfl,b,c⟩
theorem Rep.view_inv {e id len off:Nat} {p:List Nat} {cs:List Value} (h:Rep w I ι H (.own e [.eptr id len off p]) cs):∃c img,cs=[c]∧ι id=some img∧
  (∀E fz rows,H id=some ⟨some E,fz,.agg rows⟩→len≤rows.length∧(len=rows.length→∃b c2,img.b=some b∧c=.slice (some ⟨b,off,none⟩) e c2)):=by
 cases h with
 |imm h=>cases h
 |view a b c=>exact ⟨_,_,rfl,b,c⟩
theorem Slot.int_inv {k:IntKind} {n:Int} {cv:Value} (h:Slot w I ι H (.int k n) cv):cv=.int k n:=by have:=Rep.int_inv h;simpa using this
theorem Slot.bool_inv {b:Bool} {cv:Value} (h:Slot w I ι H (.bool b) cv):cv=.bool b:=by have:=Rep.bool_inv h;simpa using this
theorem Slot.str_inv {s:List UInt8} {cv:Value} (h:Slot w I ι H (.str s) cv):cv=.string ⟨s.toArray⟩∧s.length≤lenMax:=by
 have:=Rep.str_inv h;exact ⟨by simpa using this.1,this.2⟩
theorem Slot.nils_inv {cv:Value} (h:Slot w I ι H .nils cv):cv=.slice none 0 0:=by have:=Rep.nils_inv h;simpa using this
theorem Slot.agg_inv {vs:List V} {cv:Value} (h:Slot w I ι H (.agg vs) cv):∃cs,cv=.agg cs∧Rep w I ι H (.agg vs) cs.toList:=h
theorem slot_int {k:IntKind} {n:Int}:Slot w I ι H (.int k n) (.int k n):=Rep.imm .int
theorem slot_bool {b:Bool}:Slot w I ι H (.bool b) (.bool b):=Rep.imm .bool
theorem slot_str {s:List UInt8} (h:s.length≤lenMax):Slot w I ι H (.str s) (.string ⟨s.toArray⟩):=Rep.imm (.str h)
theorem slot_of_rep {v:V} {cs:List Value} {cv:Value} (h:Rep w I ι H v cs) (hb:if v.isAgg then cv=.agg cs.toArray else cs=[cv]):Slot w I ι H v cv:=by
 cases v<;>simp only [V.isAgg,if_true,if_false,Bool.false_eq_true] at hb<;>simp only [Slot,Slot0,Slot1]<;>
  first
   |(subst hb;exact h)
   |(subst hb;exact ⟨_,rfl,by simpa using h⟩)
   |(exfalso;cases h;done)
   |(exfalso;cases h<;>rename_i h<;>cases h;done)
   |skip
 all_goals (cases h<;>rename_i h<;>cases h)
end
open Go
theorem flat_at {part:Nat→List Value} {z:Nat}:∀(n:Nat),(∀i,i<n→(part i).length=z)→∀i,i<n→∀j,j<z→
  ((List.range n).flatMap part)[i*z+j]? =(part i)[j]?:=by
 intro n
 induction n with
 |zero=>intro _ i hi;omega
 |succ n ih=>
  intro h i hi j hj
  have hl:((List.range n).flatMap part).length=n*z:=by
   have:∀m,m≤n→((List.range m).flatMap part).length=m*z:=by
    intro m
    induction m with
    |zero=>intro _;simp
    |succ m ih2=>
     intro hm
     rw [List.range_succ,List.flatMap_append,List.length_append,ih2 (by omega)]
     simp [h m (by omega),Nat.succ_mul]
   exact this n (Nat.le_refl _)
  rw [List.range_succ,List.flatMap_append]
  by_cases hin:i=n
  ·subst hin
   rw [List.getElem?_append_right (by omega),hl]
   simp [show i*z+j-i*z=j by omega]
  ·have hlt:i<n:=by omega
   have:i*z+j<n*z:=by
    have:(i+1)*z≤n*z:=Nat.mul_le_mul_right _ hlt
    rw [Nat.succ_mul] at this
    omega
   rw [List.getElem?_append_left (by omega)]
   exact ih (fun k hk=>h k (by omega)) i hlt j hj
theorem cellsAt_part {w:World} {b o n z:Nat} {part:Nat→List Value} (h:∀i,i<n→(part i).length=z)
  (hc:cellsAt w b o ((List.range n).flatMap part)):∀i,i<n→cellsAt w b (o+i*z) (part i):=by
 intro i hi j c hj
 have hjz:j<z:=by
  have:=(List.getElem?_eq_some_iff.1 hj).1
  rw [h i hi] at this;exact this
 have:=hc (i*z+j) c (by rw [flat_at n h i hi j hjz];exact hj)
 rwa [show o+i*z+j=o+(i*z+j) by omega]
theorem cellsAt_front {w:World} {b:Nat} {front spare:List Value} (h:BlkAt w b (front++spare)):cellsAt w b 0 front:=by
 intro j c hj
 rw [Nat.zero_add,blk_cell h,List.getElem?_append_left (List.getElem?_eq_some_iff.1 hj).1]
 exact hj
theorem cellsAt_mid {w:World} {b:Nat} {pre mid post:List Value} (h:BlkAt w b (pre++mid++post)):cellsAt w b pre.length mid:=by
 intro j c hj
 rw [blk_cell h,List.append_assoc,List.getElem?_append_right (by omega),show pre.length+j-pre.length=j by omega,
  List.getElem?_append_left (List.getElem?_eq_some_iff.1 hj).1]
 exact hj
theorem szs_const {z:Nat}:∀{vs:List V},(∀v∈vs,v.sz=z)→V.szs vs=vs.length*z
 |[],_=>by simp [V.szs]
 |v::r,h=>by rw [V.szs,h v (by simp),szs_const (fun u hu=>h u (by simp [hu])),List.length_cons,Nat.succ_mul,Nat.add_comm]
structure SeqRep (w:World) (I:Nat→Prop) (vs:List V) (a:Option Addr) (cap:Nat):Prop where
 le:vs.length≤cap
 cap:cap≤lenMax
 mem:vs≠[]→∃b off z,∃part:Nat→List Value,a=some ⟨b,off,none⟩∧(∀i,i<vs.length→cellsAt w b (off+i*z) (part i))∧
  (∀i,i<vs.length→(part i).length=z)∧∀i v,vs[i]? =some v→Imm w I v (part i)
section
variable {P:Program} {U I0:Nat→Prop} {H:Nat→Option Blk} {w:World} {I:Nat→Prop} {ι:Nat→Option Img} {id:Nat}
theorem arr_front {E:Nat} {rows:List V} {img:Img} (h:ArrAt P w I img E rows) {b:Nat} (hb:img.b=some b):
  ∃front spare,∃part:Nat→List Value,BlkAt w b (front++spare)∧front=(List.range rows.length).flatMap part∧(∀i v,rows[i]? =some v→Imm w I v (part i))∧
   (∀i,i<rows.length→(part i).length=P.cellsOf E)∧(front++spare).length=img.cap*P.cellsOf E∧front.length=rows.length*P.cellsOf E∧(∀r∈rows,r.sz=P.cellsOf E):=by
 obtain ⟨h1,h2,h3⟩:=h
 rw [hb] at h3
 obtain ⟨front,spare,k1,k2,k3,k4⟩:=h3
 have hl:=k2.size
 obtain ⟨part,rfl,hp⟩:=k2.agg_inv
 refine ⟨_,spare,part,k1,rfl,hp,fun i hi=>?_,k3, ?_,k4⟩
 ·rw [(hp i rows[i] (by simp [hi])).size];exact k4 _ (by simp)
 ·rw [hl,V.sz];exact szs_const k4
theorem seq_arr {E:Nat} {rows:List V} {img:Img} (h:ArrAt P w I img E rows):SeqRep w I rows (img.b.map (⟨·,0,none⟩)) img.cap:=by
 refine ⟨h.1,h.2.1,fun hne=>?_⟩
 cases hb:img.b with
 |none=>
  obtain ⟨h1,h2,h3⟩:=h
  rw [hb] at h3
  have h3:img.cap=0:=h3
  have:rows.length=0:=by omega
  exact absurd (List.length_eq_zero_iff.1 this) hne
 |some b=>
  obtain ⟨front,spare,part,k1,k2,k3,k4,k5⟩:=arr_front h hb
  exact ⟨b,0,P.cellsOf E,part,rfl,cellsAt_part k4 (k2▸cellsAt_front k1),k4,k3⟩
theorem seq_rep (hm:MRel P U I0 H w I ι) {x:V} {cx:Value} (hs:Slot w I ι H x cx) (hok:(seqOf H x).ok) (hstr:∀s,x≠.str s):
  ∃a cap,cx=.slice a (seqOf H x).vs.length cap∧SeqRep w I (seqOf H x).vs a cap∧
   (∀vs,x=.list true vs→cap=vs.length)∧(x=.nils→a=none∧cap=0)∧(∀i len,x=.sl i len→∃img,ι i=some img∧a=img.b.map (⟨·,0,none⟩)∧cap=img.cap):=by
 cases x with
 |list c vs=>
  have hi:Imm w I (.list c vs) [cx]:=Rep.list_inv hs
  cases hi with
  |list hlen hcap hc hm hsz hr=>
   rename_i a cap sz part
   refine ⟨a,cap,rfl,⟨hlen,hcap,fun hne=>?_⟩,fun vs' e=>?_,fun e=>(by cases e),fun i len e=>(by cases e)⟩
   ·obtain ⟨ad,rfl,hsp,hI,hcell⟩:=hm hne
    obtain ⟨b,off,sp⟩:=ad
    simp only at hsp;subst hsp
    exact ⟨b,off,sz,part,rfl,hcell,hsz,hr⟩
   ·cases e;exact hc rfl
 |nils=>
  have:=Slot.nils_inv hs
  subst this
  exact ⟨none,0,rfl,⟨by simp [seqOf],by simp,fun h=>by simp [seqOf] at h⟩,fun vs e=>(by cases e),fun _=>⟨rfl,rfl⟩,fun i len e=>(by cases e)⟩
 |sl i len=>
  obtain ⟨c,img,hc,hi,hr⟩:=Rep.sl_inv hs
  have hcx:cx=c:=by simpa using hc
  subst hcx
  simp only [seqOf] at hok ⊢
  cases hH:H i with
  |none=>simp [hH] at hok
  |some blk=>
   obtain ⟨arr,fz,t⟩:=blk
   cases arr with
   |none=>simp [hH] at hok
   |some E=>
    cases t with
    |agg rows=>
     simp only [hH] at hok ⊢
     obtain ⟨r1,r2⟩:=hr E fz rows hH
     have e:=r2 hok
     obtain ⟨img',g1,g2,g3⟩:=hm.heap i _ hH
     rw [hi] at g1
     cases g1
     obtain ⟨rows',e',g4⟩:=g3.resolve_right (fun ⟨_,_,e,_⟩=>by cases e)
     cases e'
     exact ⟨_,_,by rw [e,hok],seq_arr g4,fun vs e=>(by cases e),fun e=>(by cases e),fun i' len' e'=>by cases e';exact ⟨img,hi,rfl,rfl⟩⟩
    |_=>simp [hH] at hok
 |str s=>exact absurd rfl (hstr s)
 |_=>simp [seqOf] at hok
theorem seq_get {vs:List V} {a:Option Addr} {cap:Nat} (h:SeqRep w I vs a cap) {i:Nat} (hi:i<vs.length):
  ∃b off z cs,a=some ⟨b,off,none⟩∧cellsAt w b (off+i*z) cs∧cs.length=z∧Imm w I (vs.getD i .junk) cs:=by
 have hne:vs≠[]:=fun e=>by rw [e] at hi;simp at hi
 obtain ⟨b,off,z,part,h1,h2,h3,h4⟩:=h.mem hne
 refine ⟨b,off,z,part i,h1,h2 i hi,h3 i hi,h4 i _ ?_⟩
 simp [List.getD,hi]
end
open Go
section
variable {P:Program} {U I0:Nat→Prop} {H:Nat→Option Blk} {w:World} {I:Nat→Prop} {ι:Nat→Option Img} {id:Nat}
def Gives (P:Program) (H:Nat→Option Blk) (w:World) (I:Nat→Prop) (ι:Nat→Option Img) (o:Out) (s:Sem Value):Prop:=
 o.hw=[]∧∃cv,s.run P w=.ok cv w∧o.ln∧Slot w I ι H o.v cv
theorem Gives.does {o:Out} {s:Sem Value} (hm:MRel P U I0 H w I ι) (h:Gives P H w I ι o s):Does P U I0 H w I ι id o (do pure (.value (←s))):=by
 obtain ⟨h0,cv,h1,h2,h3⟩:=h
 obtain ⟨ok,ln,v,hw⟩:=o
 simp only at h0 h2 h3
 subst h0
 exact does_pure hm h1 h2 h3
theorem toList_mk (s:List UInt8):(⟨s.toArray⟩:ByteArray).toList=s:=by
 rw [ByteArray.toList_eq]
theorem size_mk (s:List UInt8):(⟨s.toArray⟩:ByteArray).size=s.length:=by
 simp [ByteArray.size]
theorem append_mk (a b:List UInt8):(⟨a.toArray⟩:ByteArray)++⟨b.toArray⟩=⟨(a++b).toArray⟩:=by
 apply ByteArray.ext
 simp
theorem run_intBin (op:BinOp) (k:IntKind) (a b:Int) (T:Nat) (h:(intBin op k a b).ok) (hop:op≠.shl∧op≠.shr):
  Gives P H w I ι (intBin op k a b) (Go.binOp op T (.int k a) (.int k b)):=by
 refine ⟨by cases op<;>rfl, ?_⟩
 obtain ⟨h1,h2⟩:=hop
 cases op<;>simp only [intBin] at h ⊢
 case shl=>exact absurd rfl h1
 case shr=>exact absurd rfl h2
 case quo=>
  refine ⟨_, ?_,trivial,slot_int⟩
  simp only [Go.binOp,Op.intDiv,h,ne_eq,not_true_eq_false,if_false]
  rfl
 case rem=>
  refine ⟨_, ?_,trivial,slot_int⟩
  simp only [Go.binOp,Op.intDiv,h,ne_eq,not_true_eq_false,if_false]
  rfl
 case add|sub|mul|and|or|xor|andNot=>
  refine ⟨_, ?_,trivial,slot_int⟩
  simp only [Go.binOp,ne_eq,not_true_eq_false,if_false]
  rfl
 case eql|neq|lss|leq|gtr|geq=>
  refine ⟨_, ?_,trivial,slot_bool⟩
  simp only [Go.binOp,ne_eq,not_true_eq_false,if_false]
  rfl
theorem run_eqGuard_int (op:BinOp) (T:Nat) (xo yo:Operand) (k j:IntKind) (a b:Int):(eqGuard op T xo yo (.int k a) (.int j b)).run P w=.ok () w:=by
 cases op<;>rfl
theorem run_eqGuard_str (op:BinOp) (T:Nat) (xo yo:Operand) (a b:ByteArray):(eqGuard op T xo yo (.string a) (.string b)).run P w=.ok () w:=by
 cases op<;>rfl
theorem run_eqGuard_bool (op:BinOp) (T:Nat) (xo yo:Operand) (a b:Bool):(eqGuard op T xo yo (.bool a) (.bool b)).run P w=.ok () w:=by
 cases op<;>rfl
theorem boolT_und {T:Nat} (h:boolT P T=true):P.underlying T=some .bool:=by
 unfold boolT at h
 cases hu:P.underlying T with
 |none=>simp [hu] at h
 |some d=>cases d<;>simp_all
theorem strT_und {T:Nat} (h:strT P T=true):P.underlying T=some .string:=by
 unfold strT at h
 cases hu:P.underlying T with
 |none=>simp [hu] at h
 |some d=>cases d<;>simp_all
theorem elemT_und {T E:Nat} (h:elemT P T=some E):P.underlying T=some (.slice E):=by
 unfold elemT at h
 cases hu:P.underlying T with
 |none=>simp [hu] at h
 |some d=>cases d<;>simp_all
theorem kindT_und {T:Nat} {k:IntKind} (h:kindT P T=some k):P.underlying T=some (.int k):=by
 unfold kindT at h
 cases hu:P.underlying T with
 |none=>simp [hu] at h
 |some d=>cases d<;>simp_all
theorem arrT_und {T E n:Nat} (h:arrT P T=some (n,E)):P.underlying T=some (.array n E):=by
 unfold arrT at h
 cases hu:P.underlying T with
 |none=>simp [hu] at h
 |some d=>cases d<;>simp_all
theorem fOff_und {T k o:Nat} (h:fOff P T k=some o):∃fs f z,P.underlying T=some (.struct fs)∧fs[k]? =some f∧f.offset=o∧szO P f.type=some (z+1):=by
 unfold fOff at h
 split at h
 ·rename_i fs hu
  split at h
  ·rename_i f hf
   split at h
   ·rename_i z hz
    exact ⟨fs,f,z,hu,hf,by simpa using h,hz⟩
   ·cases h
  ·cases h
 ·cases h
theorem fTy_und {T k t:Nat} (h:fTy P T k=some t):∃fs f,P.underlying T=some (.struct fs)∧fs[k]? =some f∧f.type=t:=by
 unfold fTy at h
 cases hu:P.underlying T with
 |none=>simp [hu] at h
 |some d=>
  cases d<;>simp [hu] at h
  obtain ⟨f,hf,e⟩:=h
  exact ⟨_,f,rfl,hf,e⟩
theorem isT_und {T:Nat} (h:isT P T=true):∃d,P.underlying T=some d:=by
 unfold isT at h
 exact Option.isSome_iff_exists.1 h
theorem run_equalIn_bool {T:Nat} (h:boolT P T=true) (d:Nat) (a b:Bool):(Op.equalIn (d+1) T (.bool a) (.bool b)).run P w=.ok (a==b) w:=by
 simp only [Op.equalIn,Sem.run_bind,run_und (boolT_und h),Result.andThen_ok]
 rfl
theorem run_equal_bool {T:Nat} (h:boolT P T=true) (a b:Bool):(Op.equal T (.bool a) (.bool b)).run P w=.ok (a==b) w:=run_equalIn_bool h 9999 a b
theorem agg2_inv {x0 x1:Int} {cv:Value} (h:Slot w I ι H (.agg [.int .i64 x0,.int .i64 x1]) cv):cv=.agg #[.int .i64 x0,.int .i64 x1]:=by
 obtain ⟨cs,rfl,hr⟩:=h
 obtain ⟨part,e,hp⟩:=hr.agg_inv
 have h0:=Rep.int_inv (hp 0 _ rfl)
 have h1:=Rep.int_inv (hp 1 _ rfl)
 have:cs.toList=[.int .i64 x0,.int .i64 x1]:=by
  rw [e]
  simp [List.range_succ,h0,h1]
 congr 1
 apply Array.ext'
 simpa using this
theorem run_binV (hm:MRel P U I0 H w I ι) (op:BinOp) (T:Nat) (xo yo:Operand) {x y:V} {cx cy:Value} (hx:Slot w I ι H x cx) (hy:Slot w I ι H y cy) (h:(binV P op T x y).ok):
  Gives P H w I ι (binV P op T x y) (do eqGuard op T xo yo cx cy;Go.binOp op T cx cy):=by
 unfold binV at h ⊢
 split at h
 ·rename_i k a j b
  have e1:=hx.int_inv
  have e2:=hy.int_inv
  subst e1 e2
  split at h
  ·refine ⟨rfl,_, ?_,trivial,slot_int⟩
   simp only [Sem.run_bind,run_eqGuard_int,Result.andThen_ok]
   simp [Go.binOp,Op.shift,show ¬b<0 by simp only at h;omega]
  ·refine ⟨rfl,_, ?_,trivial,slot_int⟩
   simp only [Sem.run_bind,run_eqGuard_int,Result.andThen_ok]
   simp [Go.binOp,Op.shift,show ¬b<0 by simp only at h;omega]
  ·rename_i h1 h2
   obtain ⟨rfl,h⟩:=h
   obtain ⟨g1,cv,g2,g3,g4⟩:=run_intBin (P:=P) (H:=H) (w:=w) (I:=I) (ι:=ι) op k a b T h ⟨h1,h2⟩
   refine ⟨g1,cv, ?_,g3,g4⟩
   simp only [Sem.run_bind,run_eqGuard_int,Result.andThen_ok,g2]
 ·rename_i a b
  obtain ⟨e1,l1⟩:=hx.str_inv
  obtain ⟨e2,l2⟩:=hy.str_inv
  subst e1 e2
  split at h
  ·refine ⟨rfl,_, ?_,trivial,slot_str (by simpa using h)⟩
   simp only [Sem.run_bind,run_eqGuard_str,Result.andThen_ok]
   have hle:¬((a.length+b.length:Nat):Int)>IntKind.i64.max:=by
    simp [IntKind.max,IntKind.signed,IntKind.bits]
    unfold lenMax at h;simp only at h
    omega
   simp only [Go.binOp,Op.stringOp,size_mk,append_mk]
   rw [if_neg hle]
   rfl
  ·refine ⟨rfl,_, ?_,trivial,slot_bool⟩
   simp only [Sem.run_bind,run_eqGuard_str,Result.andThen_ok]
   simp [Go.binOp,Op.stringOp,toList_mk]
  ·refine ⟨rfl,_, ?_,trivial,slot_bool⟩
   simp only [Sem.run_bind,run_eqGuard_str,Result.andThen_ok]
   simp [Go.binOp,Op.stringOp,toList_mk,bne]
  ·exact h.elim
 ·rename_i a b
  have e1:=hx.bool_inv
  have e2:=hy.bool_inv
  subst e1 e2
  split at h
  ·refine ⟨rfl,_, ?_,trivial,slot_bool⟩
   simp only [Sem.run_bind,run_eqGuard_bool,Result.andThen_ok]
   show Sem.run P (do pure (Value.bool (←Op.equal T (.bool a) (.bool b)))) w=_
   rw [Sem.run_bind,run_equal_bool h]
   rfl
  ·refine ⟨rfl,_, ?_,trivial,slot_bool⟩
   simp only [Sem.run_bind,run_eqGuard_bool,Result.andThen_ok]
   show Sem.run P (do pure (Value.bool (!(←Op.equal T (.bool a) (.bool b))))) w=_
   rw [Sem.run_bind,run_equal_bool h]
   rfl
  ·exact h.elim
 ·rename_i x0 x1 y0 y1
  have e1:=agg2_inv hx
  have e2:=agg2_inv hy
  subst e1 e2
  split at h
  ·obtain ⟨g1,g2⟩:=StructEq.out h w x0 x1 y0 y1
   refine ⟨rfl,_, ?_,trivial,slot_bool⟩
   have hg:(eqGuard .eql T xo yo (.agg #[.int .i64 x0,.int .i64 x1]) (.agg #[.int .i64 y0,.int .i64 y1])).run P w=.ok () w:=by
    simp [eqGuard,g2]
   simp only [Sem.run_bind,hg,Result.andThen_ok]
   show Sem.run P (do pure (Value.bool (←Op.equal T _ _))) w=_
   rw [Sem.run_bind,g1]
   rfl
  ·obtain ⟨g1,g2⟩:=StructEq.out h w x0 x1 y0 y1
   refine ⟨rfl,_, ?_,trivial,slot_bool⟩
   have hg:(eqGuard .neq T xo yo (.agg #[.int .i64 x0,.int .i64 x1]) (.agg #[.int .i64 y0,.int .i64 y1])).run P w=.ok () w:=by
    simp [eqGuard,g2]
   simp only [Sem.run_bind,hg,Result.andThen_ok]
   show Sem.run P (do pure (Value.bool (!(←Op.equal T _ _)))) w=_
   rw [Sem.run_bind,g1]
   rfl
  ·exact h.elim
 ·exact h.elim
theorem run_unV (op:UnOp) {x:V} {cx:Value} (hx:Slot w I ι H x cx) (h:(unV op x).ok):Gives P H w I ι (unV op x) (Op.unary op cx):=by
 unfold unV at h ⊢
 split at h
 ·have e1:=hx.int_inv
  subst e1
  split at h
  ·exact ⟨rfl,_,by simp [Op.unary,Op.intArith],trivial,slot_int⟩
  ·exact ⟨rfl,_,by simp [Op.unary,Op.intBits,bits],trivial,slot_int⟩
  ·exact h.elim
 ·have e1:=hx.bool_inv
  subst e1
  split at h
  ·exact ⟨rfl,_,by simp [Op.unary],trivial,slot_bool⟩
  ·exact h.elim
 ·exact h.elim
end
open Go
section
variable {P:Program} {U I0:Nat→Prop} {H:Nat→Option Blk} {w:World} {I:Nat→Prop} {ι:Nat→Option Img} {id:Nat}
theorem sz_of_not_agg {v:V} (h:v.isAgg=false):v.sz=1:=by
 cases v<;>first|rfl|cases h
theorem run_ld {T b off:Nat} {u:V} {mid:List Value} (hl:LdOk P T u) (hr:Rep w I ι H u mid) (hc:cellsAt w b off mid):
  ∃cv,(Instr.loadAt T (.pointer (some ⟨b,off,none⟩))).run P w=.ok cv w∧Slot w I ι H u cv:=by
 obtain ⟨l1,l2⟩:=hl
 have hs:=hr.size
 obtain ⟨v,h1,h2⟩:=run_loadVar_at (P:=P) (w:=w) (T:=T) hc (by rw [hs];exact l1) l2 (fun h=>by rw [hs];exact sz_of_not_agg h)
 refine ⟨v, ?_,slot_of_rep hr h2⟩
 simp [Instr.loadAt,Instr.sureAddr,h1]
theorem box_of (hm:MRel P U I0 H w I ι) {i b cap:Nat} {a:Bool} {fz:Bool} {t:V} (hi:ι i=some ⟨some b,cap,a⟩) (hH:H i=some ⟨none,fz,t⟩):
  ∃cs,BlkAt w b cs∧Rep w I ι H t cs:=by
 obtain ⟨img,g1,g2,g3⟩:=hm.heap i _ hH
 rw [hi] at g1;cases g1
 obtain ⟨b',cs,e1,e2,e3⟩:=g3
 cases e1
 exact ⟨cs,e2,e3⟩
theorem arr_of (hm:MRel P U I0 H w I ι) {i E:Nat} {img:Img} {fz:Bool} {rows:List V} (hi:ι i=some img) (hH:H i=some ⟨some E,fz,.agg rows⟩):
  ArrAt P w I img E rows:=by
 obtain ⟨img,g1,g2,g3⟩:=hm.heap i _ hH
 rw [hi] at g1;cases g1
 obtain ⟨rows',e1,e2⟩:=g3.resolve_right (fun ⟨_,_,e,_⟩=>by cases e)
 cases e1
 exact e2
theorem run_loadV (hm:MRel P U I0 H w I ι) (T:Nat) {a:V} {ca:Value} (ha:Slot w I ι H a ca) (h:(loadV P H T a).ok):
  Gives P H w I ι (loadV P H T a) (Instr.loadAt T ca):=by
 unfold loadV at h ⊢
 split at h
 ·rename_i i off p
  obtain ⟨b,cap,hi,hc⟩:=Rep.ptr_inv ha
  have hc:ca=.pointer (some ⟨b,off,none⟩):=by simpa using hc
  subst hc
  split at h
  ·rename_i fz t hH
   obtain ⟨cs,e2,e3⟩:=box_of hm hi hH
   split at h
   ·rename_i u hu
    obtain ⟨pre,mid,post,q1,q2,q3,q4⟩:=e3.sub hu
    obtain ⟨l1,l2⟩:=h
    rw [q1] at e2
    have hmid:=cellsAt_mid e2
    rw [q2,l1] at hmid
    obtain ⟨cv,r1,r2⟩:=run_ld l2 q3 hmid
    exact ⟨rfl,cv,r1,trivial,r2⟩
   ·exact h.elim
  ·exact h.elim
 ·rename_i i len off p
  obtain ⟨c,img,hc,hi,hr⟩:=Rep.eptr_inv ha
  have hc:ca=c:=by simpa using hc
  subst hc
  split at h
  ·rename_i E fz rows hH
   split at h
   ·rename_i u hu
    obtain ⟨l0,l1,l2⟩:=h
    obtain ⟨b,hb,rfl⟩:=(hr E fz rows hH).2 l0
    have ha:=arr_of hm hi hH
    obtain ⟨h1,h2,h3⟩:=ha
    rw [hb] at h3
    obtain ⟨front,spare,k1,k2,k3,k4⟩:=h3
    obtain ⟨pre,mid,post,q1,q2,q3,q4⟩:=k2.sub hu
    have k1':BlkAt w b (pre++mid++(post++spare)):=by rw [q1] at k1;simpa using k1
    have hmid:=cellsAt_mid k1'
    rw [q2,l1] at hmid
    obtain ⟨cv,r1,r2⟩:=run_ld l2 (.imm q3) hmid
    exact ⟨rfl,cv,r1,trivial,r2⟩
   ·exact h.elim
  ·exact h.elim
 ·rename_i u
  obtain ⟨b,off,l,hc,hI,hcell,himm⟩:=Rep.dptr_inv ha
  have hc:ca=.pointer (some ⟨b,off,none⟩):=by simpa using hc
  subst hc
  obtain ⟨cv,r1,r2⟩:=run_ld h (.imm himm) hcell
  exact ⟨rfl,cv,r1,trivial,r2⟩
 ·exact h.elim
theorem run_fieldPlace {b off z:Nat} {f:Field} (hz:szO P f.type=some (z+1)):(fieldPlace ⟨b,off,none⟩ f).run P w=.ok ⟨b,off+f.offset,none⟩ w:=by
 unfold fieldPlace
 rw [Sem.run_bind,run_sz hz]
 simp [addr_add]
theorem run_fieldAt {T k b off o:Nat} (h:fOff P T k=some o):(Instr.fieldAt T (.pointer (some ⟨b,off,none⟩)) k).run P w=.ok (.pointer (some ⟨b,off+o,none⟩)) w:=by
 obtain ⟨fs,f,z,hu,hf,rfl,hz⟩:=fOff_und h
 unfold Instr.fieldAt
 simp only [Sem.run_bind,run_und hu,Result.andThen_ok,hf,Instr.sureAddr,Sem.run_pure,run_fieldPlace hz]
theorem run_fieldAddrV (hm:MRel P U I0 H w I ι) (T k:Nat) {a:V} {ca:Value} (ha:Slot w I ι H a ca) (h:(fieldAddrV P H T k a).ok):
  Gives P H w I ι (fieldAddrV P H T k a) (Instr.fieldAt T ca k):=by
 unfold fieldAddrV at h ⊢
 split at h
 ·rename_i i off p
  obtain ⟨b,cap,hi,hc⟩:=Rep.ptr_inv ha
  have hc:ca=.pointer (some ⟨b,off,none⟩):=by simpa using hc
  subst hc
  split at h
  ·rename_i o ho
   exact ⟨rfl,_,run_fieldAt ho,trivial,Rep.ptr hi⟩
  ·exact h.elim
 ·rename_i i len off p
  obtain ⟨c,img,hc,hi,hr⟩:=Rep.eptr_inv ha
  have hc:ca=c:=by simpa using hc
  subst hc
  split at h
  ·rename_i o E fz rows ho hH
   obtain ⟨b,hb,rfl⟩:=(hr E fz rows hH).2 h
   refine ⟨rfl,_,run_fieldAt ho,trivial, ?_⟩
   refine Rep.eptr rfl hi fun E' fz' rows' hH'=>⟨(hr E' fz' rows' hH').1,fun hl=>⟨b,hb,rfl⟩⟩
  ·exact h.elim
 ·rename_i vs
  obtain ⟨b,off,l,hc,hI,hcell,himm⟩:=Rep.dptr_inv ha
  have hc:ca=.pointer (some ⟨b,off,none⟩):=by simpa using hc
  subst hc
  split at h
  ·rename_i o u ho hu
   refine ⟨rfl,_,run_fieldAt ho,trivial, ?_⟩
   obtain ⟨pre,mid,post,q1,q2,q3,q4⟩:=himm.sub (p:=[k]) (u:=u) (by simp [V.sub,hu])
   have q2':pre.length=o:=by rw [q2];simp [V.off,hu];exact h
   have hc2:cellsAt w b (off+o) mid:=by
    intro j c hj
    have:=hcell (o+j) c (by rw [q1,List.append_assoc,List.getElem?_append_right (by omega),show o+j-pre.length=j by omega,List.getElem?_append_left (List.getElem?_eq_some_iff.1 hj).1];exact hj)
    rwa [show off+o+j=off+(o+j) by omega]
   exact Rep.imm (.dptr hI hc2 q3)
  ·exact h.elim
 ·exact h.elim
theorem run_asIntOf (k:IntKind) (n:Int):(asIntOf (.int k n)).run P w=.ok (k,n) w:=rfl
theorem getD_toNat {vs:List V} {i:Int} (h0:0≤i) (h1:i<vs.length):vs[i.toNat]? =some (getV vs i):=by
 have:i.toNat<vs.length:=by omega
 simp [getV,List.getD,this]
theorem run_indexAddrV (hm:MRel P U I0 H w I ι) (T:Nat) {a x:V} {ca cx:Value} (ha:Slot w I ι H a ca) (hx:Slot w I ι H x cx) (h:(indexAddrV P H T a x).ok):
  Gives P H w I ι (indexAddrV P H T a x) (Instr.indexAt T ca cx):=by
 unfold indexAddrV at h ⊢
 split at h
 ·rename_i c vs k i
  have e:=hx.int_inv;subst e
  split at h
  ·rename_i E hE
   obtain ⟨h0,h1,h2⟩:=h
   obtain ⟨a,cap,rfl,hs,_⟩:=seq_rep hm ha (by simp [seqOf]) (by intro s hs;cases hs)
   simp only [seqOf] at hs ⊢
   have hlt:i.toNat<vs.length:=by omega
   obtain ⟨b,off,z,cs,rfl,hcell,hz,himm⟩:=seq_get hs hlt
   have hz2:z=(getV vs i).sz:=by rw [←hz,himm.size];rfl
   refine ⟨rfl,.pointer (some ⟨b,off+i.toNat*z,none⟩), ?_,trivial, ?_⟩
   ·unfold Instr.indexAt
    simp only [Sem.run_bind,run_asIntOf,Result.andThen_ok,run_und (elemT_und hE),Sem.run_pure]
    rw [if_pos ⟨h0,by exact_mod_cast h1⟩]
    simp only [Sem.run_bind,run_sz h2,Result.andThen_ok,Sem.run_pure,addr_add,hz2]
   ·have hne:vs≠[]:=fun e=>by rw [e] at hlt;simp at hlt
    obtain ⟨b',off',z',part,e1,e2,e3,e4⟩:=hs.mem hne
    have hI:I b:=by
     have hi:Imm w I (.list c vs) _:=Rep.list_inv ha
     cases hi with
     |list _ _ _ hmm _ _=>
      obtain ⟨ad,q1,q2,q3,q4⟩:=hmm hne
      cases q1;exact q3
    exact Rep.imm (.dptr hI hcell himm)
  ·exact h.elim
 ·rename_i j len k i
  have e:=hx.int_inv;subst e
  split at h
  ·rename_i E E' fz rows hE hH
   obtain ⟨h0,h1,h2,h3⟩:=h
   obtain ⟨c,img,hc,hi,hr⟩:=Rep.sl_inv ha
   have hc:ca=c:=by simpa using hc
   subst hc
   have e:=(hr E' fz rows hH).2 h0
   subst e
   have harr:=arr_of hm hi hH
   cases hb:img.b with
   |none=>
    obtain ⟨q1,q2,q3⟩:=harr
    rw [hb] at q3
    have q3:img.cap=0:=q3
    omega
   |some b=>
    refine ⟨rfl,.pointer (some ⟨b,i.toNat*P.cellsOf E',none⟩), ?_,trivial, ?_⟩
    ·unfold Instr.indexAt
     simp only [Sem.run_bind,run_asIntOf,Result.andThen_ok,run_und (elemT_und hE),Sem.run_pure,Option.map_some]
     rw [if_pos ⟨h1,by exact_mod_cast h2⟩]
     simp only [Sem.run_bind,run_sz h3,Result.andThen_ok,Sem.run_pure,addr_add,Nat.zero_add]
    ·exact Rep.eptr rfl hi fun E1 fz1 rows1 hH1=>⟨(hr E1 fz1 rows1 hH1).1,fun _=>⟨b,hb,rfl⟩⟩
  ·exact h.elim
 ·rename_i j off p k i
  have e:=hx.int_inv;subst e
  obtain ⟨b,cap,hi,hc⟩:=Rep.ptr_inv ha
  have hc:ca=.pointer (some ⟨b,off,none⟩):=by simpa using hc
  subst hc
  split at h
  ·rename_i n E hE
   split at h
   ·rename_i z hz
    obtain ⟨h0,h1,h2⟩:=h
    refine ⟨rfl,.pointer (some ⟨b,off+i.toNat*z,none⟩), ?_,trivial,Rep.ptr hi⟩
    unfold Instr.indexAt
    simp only [Sem.run_bind,run_asIntOf,Result.andThen_ok,run_und (arrT_und hE),Sem.run_pure,Instr.sureAddr]
    rw [if_pos ⟨h0,by exact_mod_cast h1⟩]
    simp only [Sem.run_bind,run_sz hz,Result.andThen_ok,Sem.run_pure,addr_add]
   ·exact h.elim
  ·exact h.elim
 ·rename_i j len off p k i
  have e:=hx.int_inv;subst e
  obtain ⟨c,img,hc,hi,hr⟩:=Rep.eptr_inv ha
  have hc:ca=c:=by simpa using hc
  subst hc
  split at h
  ·rename_i n E E' fz rows hE hH
   split at h
   ·rename_i z hz
    obtain ⟨hl,h0,h1,h2⟩:=h
    obtain ⟨b,hb,rfl⟩:=(hr E' fz rows hH).2 hl
    refine ⟨rfl,.pointer (some ⟨b,off+i.toNat*z,none⟩), ?_,trivial, ?_⟩
    ·unfold Instr.indexAt
     simp only [Sem.run_bind,run_asIntOf,Result.andThen_ok,run_und (arrT_und hE),Sem.run_pure,Instr.sureAddr]
     rw [if_pos ⟨h0,by exact_mod_cast h1⟩]
     simp only [Sem.run_bind,run_sz hz,Result.andThen_ok,Sem.run_pure,addr_add]
    ·exact Rep.eptr rfl hi fun E1 fz1 rows1 hH1=>⟨(hr E1 fz1 rows1 hH1).1,fun _=>⟨b,hb,rfl⟩⟩
   ·exact h.elim
  ·exact h.elim
 ·rename_i n j off p k i
  have e:=hx.int_inv;subst e
  obtain ⟨b,cap,c2,hi,hc⟩:=Rep.own_inv ha
  have hc:ca=.slice (some ⟨b,off,none⟩) n c2:=by simpa using hc
  subst hc
  split at h
  ·rename_i E hE
   split at h
   ·rename_i z hz
    obtain ⟨h0,h1⟩:=h
    refine ⟨rfl,.pointer (some ⟨b,off+i.toNat*z,none⟩), ?_,trivial,Rep.ptr hi⟩
    unfold Instr.indexAt
    simp only [Sem.run_bind,run_asIntOf,Result.andThen_ok,run_und (elemT_und hE),Sem.run_pure]
    rw [if_pos ⟨h0,by exact_mod_cast h1⟩]
    simp only [Sem.run_bind,run_sz hz,Result.andThen_ok,Sem.run_pure,addr_add]
   ·exact h.elim
  ·exact h.elim
 ·rename_i vs k i
  have e:=hx.int_inv;subst e
  obtain ⟨b,off,l,hc,hI,hcell,himm⟩:=Rep.dptr_inv ha
  have hc:ca=.pointer (some ⟨b,off,none⟩):=by simpa using hc
  subst hc
  split at h
  ·rename_i n E hE
   split at h
   ·rename_i z hz
    obtain ⟨h0,h1,h2,h3,h4⟩:=h
    refine ⟨rfl,.pointer (some ⟨b,off+i.toNat*z,none⟩), ?_,trivial, ?_⟩
    ·unfold Instr.indexAt
     simp only [Sem.run_bind,run_asIntOf,Result.andThen_ok,run_und (arrT_und hE),Sem.run_pure,Instr.sureAddr]
     rw [if_pos ⟨h0,by exact_mod_cast h1⟩]
     simp only [Sem.run_bind,run_sz hz,Result.andThen_ok,Sem.run_pure,addr_add]
    ·obtain ⟨pre,mid,post,q1,q2,q3,q4⟩:=himm.sub (p:=[i.toNat]) (u:=getV vs i) (by simp [V.sub,getD_toNat h0 h3])
     have q2':pre.length=i.toNat*z:=by rw [q2];simp [V.off,getD_toNat h0 h3,h4]
     have hc2:cellsAt w b (off+i.toNat*z) mid:=by
      intro j c hj
      have:=hcell (i.toNat*z+j) c (by rw [q1,List.append_assoc,List.getElem?_append_right (by omega),show i.toNat*z+j-pre.length=j by omega,List.getElem?_append_left (List.getElem?_eq_some_iff.1 hj).1];exact hj)
      rwa [show off+i.toNat*z+j=off+(i.toNat*z+j) by omega]
     exact Rep.imm (.dptr hI hc2 q3)
   ·exact h.elim
  ·exact h.elim
 ·exact h.elim
end
open Go
section
variable {P:Program} {U I0:Nat→Prop} {H:Nat→Option Blk} {w:World} {I:Nat→Prop} {ι:Nat→Option Img} {id:Nat}
theorem run_part {E:Nat} {u:V} {cs:Array Value} {pre mid post:List Value} (he:cs.toList=pre++mid++post) (hl:LdOk P E u) (hr:Rep w I ι H u mid):
  ∃cv,(part E cs pre.length).run P w=.ok cv w∧Slot w I ι H u cv:=by
 obtain ⟨l1,l2⟩:=hl
 have hs:=hr.size
 unfold part
 simp only [Sem.run_bind,run_agg l2,Result.andThen_ok]
 cases hu:u.isAgg with
 |true=>
  refine ⟨.agg mid.toArray, ?_,slot_of_rep hr (by simp [hu])⟩
  simp only [if_true,Sem.run_bind,run_sz l1,Result.andThen_ok,Sem.run_pure]
  congr 2
  apply Array.ext'
  rw [Array.toList_extract,he]
  simp only [List.extract_eq_take_drop,←hs]
  rw [List.append_assoc,List.drop_left,show pre.length+mid.length-pre.length=mid.length by omega,List.take_left]
 |false=>
  have h1:mid.length=1:=by rw [hs];exact sz_of_not_agg hu
  obtain ⟨c,rfl⟩:∃c,mid=[c]:=by
   match mid,h1 with
   |[c],_=>exact ⟨c,rfl⟩
  refine ⟨c, ?_,slot_of_rep hr (by simp [hu])⟩
  have:cs[pre.length]? =some c:=by
   rw [←Array.getElem?_toList,he];simp
  simp [this]
theorem run_indexV (hm:MRel P U I0 H w I ι) (T:Nat) {a x:V} {ca cx:Value} (ha:Slot w I ι H a ca) (hx:Slot w I ι H x cx) (h:(indexV P T a x).ok):
  Gives P H w I ι (indexV P T a x) (Instr.index T ca cx):=by
 unfold indexV at h ⊢
 split at h
 ·rename_i vs k i
  have e:=hx.int_inv;subst e
  obtain ⟨cs,rfl,hr⟩:=ha.agg_inv
  split at h
  ·rename_i n E hE
   split at h
   ·rename_i z hz
    obtain ⟨h0,h1,h2,h3,h4⟩:=h
    obtain ⟨pre,mid,post,q1,q2,q3,q4⟩:=hr.sub (p:=[i.toNat]) (u:=getV vs i) (by simp [V.sub,getD_toNat h0 h2])
    have q2':pre.length=i.toNat*z:=by rw [q2];simp [V.off,getD_toNat h0 h2,h3]
    obtain ⟨cv,r1,r2⟩:=run_part (P:=P) (w:=w) q1 h4 q3
    rw [q2'] at r1
    refine ⟨rfl,cv, ?_,trivial,r2⟩
    unfold Instr.index
    simp only [Sem.run_bind,run_asIntOf,Result.andThen_ok,run_und (arrT_und hE)]
    rw [if_pos ⟨h0,by exact_mod_cast h1⟩]
    simp only [Sem.run_bind,run_sz hz,Result.andThen_ok,r1]
   ·exact h.elim
  ·exact h.elim
 ·rename_i s k i
  have e:=hx.int_inv;subst e
  obtain ⟨rfl,hl⟩:=ha.str_inv
  obtain ⟨h0,h1,h2⟩:=h
  refine ⟨rfl,_, ?_,trivial,slot_int⟩
  unfold Instr.index
  simp only [Sem.run_bind,run_asIntOf,Result.andThen_ok,run_und (strT_und h0)]
  have hlt:i.toNat<s.length:=by omega
  have:(⟨s.toArray⟩:ByteArray)[i.toNat]? =some (s.getD i.toNat 0):=by
   have hsz:i.toNat<(⟨s.toArray⟩:ByteArray).size:=by rw [size_mk];exact hlt
   rw [getElem?_pos (⟨s.toArray⟩:ByteArray) i.toNat hsz]
   congr 1
   show s.toArray[i.toNat]=_
   simp [List.getD,hlt]
  rw [if_pos h1,this]
  rfl
 ·exact h.elim
theorem run_fieldV (hm:MRel P U I0 H w I ι) (T k:Nat) {a:V} {ca:Value} (ha:Slot w I ι H a ca) (h:(fieldV P T k a).ok):
  Gives P H w I ι (fieldV P T k a) (Instr.field T ca k):=by
 unfold fieldV at h ⊢
 split at h
 ·rename_i vs
  obtain ⟨cs,rfl,hr⟩:=ha.agg_inv
  split at h
  ·rename_i o F u ho hF hu
   obtain ⟨h1,h2⟩:=h
   obtain ⟨fs,f,z,e1,e2,e3,e4⟩:=fOff_und ho
   obtain ⟨fs',f',e1',e2',e3'⟩:=fTy_und hF
   rw [e1] at e1';cases e1'
   rw [e2] at e2';cases e2'
   obtain ⟨pre,mid,post,q1,q2,q3,q4⟩:=hr.sub (p:=[k]) (u:=u) (by simp [V.sub,hu])
   have q2':pre.length=o:=by rw [q2];simp [V.off,hu,h1]
   obtain ⟨cv,r1,r2⟩:=run_part (P:=P) (w:=w) q1 h2 q3
   rw [q2'] at r1
   refine ⟨rfl,cv, ?_,trivial,r2⟩
   unfold Instr.field
   simp only [Sem.run_bind,run_und e1,Result.andThen_ok,e2,asAgg,Sem.run_pure]
   rw [e3',e3]
   exact r1
  ·exact h.elim
 ·exact h.elim
theorem run_extractV (k:Nat) {a:V} {ca:Value} (ha:Slot w I ι H a ca) (h:(extractV k a).ok):
  Gives P H w I ι (extractV k a) (Instr.extract ca k):=by
 unfold extractV at h ⊢
 split at h
 ·rename_i vs
  obtain ⟨g,rfl,hg⟩:=ha
  split at h
  ·rename_i u hu
   refine ⟨rfl,g k, ?_,trivial, ?_⟩
   ·have hlt:k<vs.length:=(List.getElem?_eq_some_iff.1 hu).1
    simp [Instr.extract,hlt]
   ·have:=hg k u hu
    cases u<;>first|exact this|(simp only [Slot1] at this;cases this;rename_i h;cases h)
  ·exact h.elim
 ·exact h.elim
theorem mapT_und {T E:Nat} (h:mapT P T=some E):∃K,P.underlying T=some (.map K E)∧P.underlying K=some (.int .i64):=by
 unfold mapT at h
 split at h
 ·rename_i K E' e
  split at h
  ·rename_i e2;cases h;exact ⟨K,e,e2⟩
  ·cases h
 ·cases h
theorem map_of (hm:MRel P U I0 H w I ι) {x:V} {cx:Value} (hx:Slot w I ι H x cx) {es:List V} (he:mapEs H x=some es):
  (cx=.map none∧es=[])∨∃b,cx=.map (some b)∧MapAt w I b es:=by
 unfold mapEs at he
 split at he
 ·split at he
  ·rename_i i off p
   split at he
   ·split at he
    ·rename_i E fz E2 es' hH
     cases he
     have hr:Rep w I ι H (.own _ [.ptr i 0 [],.nilp]) [cx]:=hx
     cases hr with
     |imm h=>cases h
     |mp hi=>
      rename_i b cap
      obtain ⟨img,g1,g2,g3⟩:=hm.heap i _ hH
      rw [hi] at g1;cases g1
      rcases g3 with ⟨rows,e,_⟩|⟨es2,b2,e1,e2,e3⟩
      ·cases e
      ·cases e1;cases e2
       exact .inr ⟨b,rfl,e3⟩
    ·cases he
   ·cases he
  ·cases he
   have hr:Rep w I ι H (.own _ [.list false es]) [cx]:=hx
   cases hr with
   |imm h=>cases h with
    |mp hb hw hs hl hn hv he hr=>exact .inr ⟨_,rfl,_,_,_,_,_,hw,hs,hl,hn,hv,he,hr⟩
  ·cases he
   have hr:Rep w I ι H (.own _ []) [cx]:=hx
   cases hr with
   |imm h=>cases h with
    |nilm=>exact .inl ⟨rfl,rfl⟩
  ·cases he
 ·cases he
theorem run_lenV (hm:MRel P U I0 H w I ι) (T:Nat) (T':Nat) {x:V} {cx:Value} (hx:Slot w I ι H x cx) (tys:Array TypeId) (ht:tys[0]? =some T) (args:Array Value) (ha:args[0]? =some cx) (h:(lenV H P T x).ok):
  Gives P H w I ι (lenV H P T x) (Builtin.len_ tys T' args):=by
 unfold lenV at h ⊢
 split at h
 ·rename_i vs
  split at h
  ·rename_i n E hE
   refine ⟨rfl,_, ?_,trivial,slot_int⟩
   unfold Builtin.len_
   simp only [ht,ha,Sem.run_bind,run_und (arrT_und hE),Result.andThen_ok]
   rfl
  ·exact h.elim
 ·rename_i s
  obtain ⟨rfl,hl⟩:=hx.str_inv
  refine ⟨rfl,_, ?_,hl,slot_int⟩
  unfold Builtin.len_
  simp only [ht,ha,Sem.run_bind,run_und (strT_und h),Result.andThen_ok,size_mk]
  rfl
 ·split at h
  ·rename_i n l j off p
   obtain ⟨b,cap,c2,hi,hc⟩:=Rep.own_inv hx
   have hc:cx=.slice (some ⟨b,off,none⟩) n c2:=by simpa using hc
   subst hc
   obtain ⟨E,hE⟩:=Option.isSome_iff_exists.1 h
   refine ⟨rfl,_, ?_,trivial,slot_int⟩
   unfold Builtin.len_
   simp only [ht,ha,Sem.run_bind,run_und (elemT_und hE),Result.andThen_ok]
   rfl
  ·rename_i n l0 l hne
   split at h
   ·rename_i E hT
    split at h
    ·rename_i es he
     obtain ⟨K,hu,hk⟩:=mapT_und hT
     rcases map_of hm hx he with ⟨rfl,rfl⟩|⟨b,rfl,ens,clock,ks,vs,part,h1,h2,h3,h0,_⟩
     ·refine ⟨rfl,_, ?_,Nat.zero_le _,slot_int⟩
      unfold Builtin.len_
      simp only [ht,ha,Sem.run_bind,run_und hu,Result.andThen_ok]
      rfl
     ·refine ⟨rfl,_, ?_,h0,slot_int⟩
      unfold Builtin.len_
      simp only [ht,ha,Sem.run_bind,run_und hu,Result.andThen_ok,MapKept.run_getObj_map h1,h3]
      rfl
    ·exact h.elim
   ·exact h.elim
 ·rename_i h1 h2 h3
  obtain ⟨hE,hok⟩:=h
  obtain ⟨E,hE⟩:=Option.isSome_iff_exists.1 hE
  obtain ⟨a,cap,rfl,hs,_⟩:=seq_rep hm hx hok (fun s e=>h2 s e)
  refine ⟨rfl,_, ?_,Nat.le_trans hs.le hs.cap,slot_int⟩
  unfold Builtin.len_
  simp only [ht,ha,Sem.run_bind,run_und (elemT_und hE),Result.andThen_ok]
  rfl
theorem run_minmaxV (mx:Bool) {xs:List V} {cs:List Value} (hl:cs.length=xs.length) (hx:∀(i:Nat) (v:V) (c:Value),xs[i]? =some v→cs[i]? =some c→Slot w I ι H v c) (tys:Array TypeId) (T':Nat) (h:(minmaxV mx xs).ok):
  Gives P H w I ι (minmaxV mx xs) (if mx then Builtin.max_ tys T' cs.toArray else Builtin.min_ tys T' cs.toArray):=by
 unfold minmaxV at h ⊢
 split at h
 ·rename_i k x j y
  match cs,hl with
  |[a,b],_=>
   have e1:=(hx 0 _ a rfl rfl).int_inv
   have e2:=(hx 1 _ b rfl rfl).int_inv
   subst e1 e2
   refine ⟨rfl,_, ?_,trivial,slot_int⟩
   cases mx<;>simp [Builtin.max_,Builtin.min_,Builtin.max2,Builtin.min2]
 ·rename_i k x _ y _ z
  match cs,hl with
  |[a,b,c],_=>
   have e1:=(hx 0 _ a rfl rfl).int_inv
   have e2:=(hx 1 _ b rfl rfl).int_inv
   have e3:=(hx 2 _ c rfl rfl).int_inv
   subst e1 e2 e3
   refine ⟨rfl,_, ?_,trivial,slot_int⟩
   cases mx<;>simp [Builtin.max_,Builtin.min_,Builtin.max2,Builtin.min2]
 ·rename_i k x _ y _ z _ u
  match cs,hl with
  |[a,b,c,d],_=>
   have e1:=(hx 0 _ a rfl rfl).int_inv
   have e2:=(hx 1 _ b rfl rfl).int_inv
   have e3:=(hx 2 _ c rfl rfl).int_inv
   have e4:=(hx 3 _ d rfl rfl).int_inv
   subst e1 e2 e3 e4
   have h:mx=true:=h
   subst h
   refine ⟨rfl,_, ?_,trivial,slot_int⟩
   simp only [Builtin.max_,Builtin.max2,if_true,List.foldlM_cons,List.foldlM_nil,Sem.run_bind,Sem.run_pure,Result.andThen_ok]
   congr 2
   have hmax:∀p q:Int,(if q>p then q else p)=max p q:=fun p q=>by omega
   simp only [hmax]
 ·exact h.elim
end
end GoL
