/- A part of the proof: a logic proved sound over the model; contracts; plain laws. -/
import Derived.Test.YteeaefidpkifbaaF6P
set_option linter.all false
open Go Go.Proofs
namespace GoL
set_option maxRecDepth 8000
def o11:V:=.agg [.int .i64 11,.list false []]
def oE:V:=.agg [.int .i64 3,.list false []]
def hdA (i:Nat):V:=.agg [.int .i64 1,.list false [iV 0 (2*i+1)]]
def hdB (i:Nat):V:=.agg [.int .i64 2,.list false [iV 2 1,iV 2 1,iV 0 i]]
def hdC (i:Nat):V:=.agg [.int .i64 1,.list false [iV 0 (2*i+2)]]
def codeF:Nat→List Nat→List V
 |_,[]=>[]
 |i,n::r=>hdA i::hdB i::hdC i::(List.replicate n o11++codeF (i+1) r)
def partF:Nat→Int→List Nat→List V
 |_,_,[]=>[]
 |i,p,n::r=>.agg [.int .i64 p,.int .i64 (p+3+n),.int .i64 (2*i+2),.int .i64 i]::partF (i+1) (p+3+n) r
theorem gv0 (pre:List V) (x:V) (r:List V):getV (pre++x::r) pre.length=x:=by
 unfold getV
 simp
theorem opA0 (pre:List V) (x:V) (r:List V):opA (pre++x::r) pre.length=insO x:=by
 unfold opA
 rw [if_pos (by simp;omega),gv0]
theorem gv1 (pre:List V) (a x:V) (r:List V):getV (pre++a::x::r) (pre.length+1)=x:=by
 have:=gv0 (pre++[a]) x r
 simpa using this
theorem opA1 (pre:List V) (a x:V) (r:List V):opA (pre++a::x::r) (pre.length+1)=insO x:=by
 have:=opA0 (pre++[a]) x r
 simpa using this
theorem opA2 (pre:List V) (a b x:V) (r:List V):opA (pre++a::b::x::r) (pre.length+2)=insO x:=by
 have:=opA0 (pre++[a,b]) x r
 simpa using this
theorem beg_no (pre:List V) (x:V) (r:List V) (h:(insO x==1)=false):beginsB (pre++x::r) pre.length=false:=by
 unfold beginsB
 rw [opA0,h]
 rfl
theorem beg_yes (pre:List V) (a b:V) (r:List V) (h:insO a=1) (h2:insO b=2):beginsB (pre++a::b::r) pre.length=true:=by
 unfold beginsB
 rw [opA0,opA1,h,h2]
 rfl
theorem body_run:∀(n:Nat) (pre r:List V) (k:Nat),bodyN (pre++(List.replicate n o11++r)) (n+k) pre.length=bodyN (pre++(List.replicate n o11++r)) k (pre.length+n)
 |0,pre,r,k=>by simp
 |n+1,pre,r,k=>by
  have e:n+1+k=(n+k)+1:=by omega
  rw [e]
  have el:pre++(List.replicate (n+1) o11++r)=pre++o11::(List.replicate n o11++r):=by rw [List.replicate_succ];rfl
  conv=>lhs;unfold bodyN
  rw [el,if_pos (by simp;omega),beg_no _ _ _ rfl,if_neg (by decide),gv0,if_neg (by decide),if_neg (by decide)]
  have:=body_run n (pre++[o11]) r k
  simp only [List.append_assoc,List.length_append,List.length_cons,List.length_nil] at this
  have e2:pre++([o11]++(List.replicate n o11++r))=pre++o11::(List.replicate n o11++r):=rfl
  rw [e2] at this
  have e3:((pre.length+(0+1):Nat):Int)=(pre.length:Int)+1:=by omega
  rw [e3] at this
  rw [this]
  congr 1
  omega
theorem body_len (n:Nat) (pre r:List V):bodyF (pre++(List.replicate n o11++r)) pre.length=bodyN (pre++(List.replicate n o11++r)) (r.length+1) (pre.length+n):=by
 unfold bodyF
 have e:(pre++(List.replicate n o11++r)).length-((pre.length:Int)).toNat+1=n+(r.length+1):=by
  simp only [List.length_append,List.length_replicate,Int.toNat_natCast]
  omega
 rw [e]
 exact body_run n pre r _
theorem body_nil (n:Nat) (pre:List V):bodyF (pre++List.replicate n o11) pre.length=((pre.length:Int)+n,false):=by
 have:=body_len n pre []
 simp only [List.append_nil] at this
 rw [this]
 unfold bodyN
 rw [if_neg (by simp)]
theorem body_stop (n:Nat) (pre:List V) (x:V) (r:List V) (h:(beginsB ((pre++List.replicate n o11)++x::r) (pre++List.replicate n o11).length=true)∨((insO x==1)=false∧(insO x==3)=true)):bodyF (pre++(List.replicate n o11++x::r)) pre.length=((pre.length:Int)+n,true):=by
 rw [body_len]
 have e:pre++(List.replicate n o11++x::r)=(pre++List.replicate n o11)++x::r:=by simp
 have ei:(pre.length:Int)+n=((pre++List.replicate n o11).length:Int):=by simp
 rw [e,ei]
 unfold bodyN
 rw [if_pos (by simp;omega)]
 rcases h with h|⟨h1,h3⟩
 ·rw [if_pos h]
 ·rw [beg_no _ _ _ h1,if_neg (by decide),gv0,if_pos h3]
def endP (tl:List V) (z:List V×Int×Bool) (out:List V) (len:Int):Prop:=
 (tl=[]∧z=([],len,false))∨(tl=[oE]∧z=(out,0,true))∨(tl=[oE,o11]∧z=([],len,false))
theorem parts_run (tl:List V) (htl:tl=[]∨tl=[oE]∨tl=[oE,o11]):∀(ns:List Nat) (pre:List V) (i k:Nat) (out:List V),ns≠[]→i+ns.length≤16→ns.length≤k→
  endP tl (partsN (pre++(codeF i ns++tl)) k out pre.length) (out++partF i pre.length ns) ((pre.length:Int)+(codeF i ns).length)
 |[],pre,i,k,out,h,_,_=>absurd rfl h
 |n::r,pre,i,0,out,_,_,hk=>by simp at hk
 |n::r,pre,i,k+1,out,_,hi,hk=>by
  have el:pre++(codeF i (n::r)++tl)=pre++hdA i::hdB i::hdC i::(List.replicate n o11++(codeF (i+1) r++tl)):=by
   simp [codeF]
  have el3:pre++(codeF i (n::r)++tl)=(pre++[hdA i,hdB i,hdC i])++(List.replicate n o11++(codeF (i+1) r++tl)):=by
   simp [codeF]
  have p3:((pre++[hdA i,hdB i,hdC i]).length:Int)=(pre.length:Int)+3:=by simp
  have eb:beginsB (pre++(codeF i (n::r)++tl)) pre.length=true:=by rw [el];exact beg_yes _ _ _ _ rfl rfl
  have e2:opA (pre++(codeF i (n::r)++tl)) (pre.length+2)=1:=by rw [el,opA2];rfl
  have e1:getV (pre++(codeF i (n::r)++tl)) (pre.length+1)=hdB i:=by rw [el,gv1]
  have en:numA (insA (hdB i)) 2=i:=rfl
  have eg2:getV (pre++(codeF i (n::r)++tl)) (pre.length+2)=hdC i:=by
   have:=gv0 (pre++[hdA i,hdB i]) (hdC i) (List.replicate n o11++(codeF (i+1) r++tl))
   rw [el]
   simpa using this
  have ec:numA (insA (hdC i)) 0=2*i+2:=rfl
  simp only [List.length_cons] at hi hk
  unfold partsN
  rw [eb,if_neg (by decide),e2,if_neg (by decide),e1,en,if_neg (by
   have c1:decide ((i:Int)<0)=false:=by simp
   have c2:decide ((i:Int)≥16)=false:=by simp;omega
   rw [c1,c2];decide),eg2,ec]
  have hcl:((codeF i (n::r)).length:Int)=3+n+(codeF (i+1) r).length:=by
   simp only [codeF,List.length_cons,List.length_append,List.length_replicate]
   omega
  have pre':pre++(codeF i (n::r)++tl)=(pre++hdA i::hdB i::hdC i::List.replicate n o11)++(codeF (i+1) r++tl):=by simp [codeF]
  have pl:((pre++hdA i::hdB i::hdC i::List.replicate n o11).length:Int)=(pre.length:Int)+3+n:=by
   simp only [List.length_append,List.length_cons,List.length_replicate];omega
  have hb:∀x q,codeF (i+1) r++tl=x::q→((beginsB ((pre++hdA i::hdB i::hdC i::List.replicate n o11)++x::q) (pre++hdA i::hdB i::hdC i::List.replicate n o11).length=true)∨((insO x==1)=false∧(insO x==3)=true))→bodyF (pre++(codeF i (n::r)++tl)) (pre.length+3)=((pre.length:Int)+3+n,true):=fun x q e h=>by
   have:=body_stop n (pre++[hdA i,hdB i,hdC i]) x q (by simpa using h)
   rw [←e,←el3,p3] at this
   exact this
  cases r with
  |cons m r'=>
   have hx:codeF (i+1) (m::r')++tl=hdA (i+1)::hdB (i+1)::hdC (i+1)::(List.replicate m o11++codeF (i+1+1) r'++tl):=by simp [codeF]
   have hbb:=hb _ _ hx (.inl (beg_yes _ _ _ _ rfl rfl))
   have hg:getV (pre++(codeF i (n::m::r')++tl)) ((pre.length:Int)+3+n)=hdA (i+1):=by
    rw [pre',←pl,hx,gv0]
   rw [hbb,if_neg (by simp)]
   simp only [hg]
   rw [if_pos (by rfl)]
   have:=parts_run tl htl (m::r') (pre++hdA i::hdB i::hdC i::List.replicate n o11) (i+1) k (out++[.agg [.int .i64 pre.length,.int .i64 ((pre.length:Int)+3+n),.int .i64 (2*i+2),.int .i64 i]]) (by simp) (by simp only [List.length_cons] at hi ⊢;omega) (by simp only [List.length_cons] at hk ⊢;omega)
   rw [←pre',pl] at this
   have ef:out++[V.agg [.int .i64 pre.length,.int .i64 ((pre.length:Int)+3+n),.int .i64 (2*i+2),.int .i64 i]]++partF (i+1) ((pre.length:Int)+3+n) (m::r')=out++partF i pre.length (n::m::r'):=by
    rw [List.append_assoc];rfl
   rw [ef] at this
   have eL:(pre.length:Int)+3+n+(codeF (i+1) (m::r')).length=(pre.length:Int)+(codeF i (n::m::r')).length:=by rw [hcl];omega
   rw [eL] at this
   exact this
  |nil=>
   have eL:((codeF i [n]).length:Int)=3+n:=by rw [hcl];simp [codeF]
   rcases htl with rfl|rfl|rfl
   ·have:=body_nil n (pre++[hdA i,hdB i,hdC i])
    have e0:pre++(codeF i [n]++[])=(pre++[hdA i,hdB i,hdC i])++List.replicate n o11:=by simp [codeF]
    rw [←e0,p3] at this
    rw [this,if_pos rfl,eL]
    exact .inl ⟨rfl,by simp;omega⟩
   ·have hbb:=hb oE [] rfl (.inr ⟨rfl,rfl⟩)
    have hg:getV (pre++(codeF i [n]++[oE])) ((pre.length:Int)+3+n)=oE:=by
     rw [pre',←pl];exact gv0 _ _ _
    rw [hbb,if_neg (by simp)]
    simp only [hg]
    rw [if_neg (by decide),if_neg (by
     have:((pre++(codeF i [n]++[oE])).length:Int)=pre.length+3+n+1:=by
      simp only [List.length_append,Int.natCast_add,eL,List.length_cons,List.length_nil];omega
     rw [this];simp)]
    exact .inr (.inl ⟨rfl,rfl⟩)
   ·have hbb:=hb oE [o11] rfl (.inr ⟨rfl,rfl⟩)
    have hg:getV (pre++(codeF i [n]++[oE,o11])) ((pre.length:Int)+3+n)=oE:=by
     rw [pre',←pl];exact gv0 _ _ _
    rw [hbb,if_neg (by simp)]
    simp only [hg]
    rw [if_neg (by decide),if_pos (by
     have:((pre++(codeF i [n]++[oE,o11])).length:Int)=pre.length+3+n+2:=by
      simp only [List.length_append,Int.natCast_add,eL,List.length_cons,List.length_nil];omega
     rw [this];simp;omega),eL]
    exact .inr (.inr ⟨rfl,by simp;omega⟩)
end GoL
