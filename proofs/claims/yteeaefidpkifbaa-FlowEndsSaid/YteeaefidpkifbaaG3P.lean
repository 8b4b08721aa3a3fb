/- A part of the proof: a logic proved sound over the model; contracts; plain laws. -/
import Derived.Test.YteeaefidpkifbaaG3N
import Derived.Test.YteeaefidpkifbaaG2P
import Derived.Test.YteeaefidpkifbaaH1P
set_option linter.all false
open Go Go.Proofs
namespace GoL
set_option maxRecDepth 8000
attribute [local irreducible] wC
theorem args_cons {c:UInt8} {r:List UInt8} {xs:List V} (h:ArgS (c::r) xs):∃v ys,xs=v::ys∧(∃(t n:Int) (ls:List V),v=.agg [.int .i64 t,.int .i64 n,.list false ls]∧ArgL ls∧ls.length≤1000∧letP c t n)∧ArgS r ys:=by
 cases xs with
 |nil=>exact h.elim
 |cons v ys=>exact ⟨v,ys,rfl,h⟩
theorem args_nil {xs:List V} (h:ArgS [] xs):xs=[]:=by
 cases xs with
 |nil=>rfl
 |cons v ys=>exact h.elim
theorem ag_lt {xs:List V} {k:Nat} {i:Int} (h:xs.length=k) (hi:i<k):i<(xs.length:Int):=by omega
theorem u_nn {t n:Int} (h:letP 117 t n):0≤n:=by
 rcases h.1 with h1|h1
 ·have:=h.2.1 rfl
  omega
 ·exact h1
theorem y_nn {t n:Int} (h:letP 121 t n):0≤n:=by
 rcases h.1 with h1|h1
 ·have:=h.2.2 rfl
  omega
 ·exact h1
theorem idx_min {xs:List V} (hi:ImpL xs) (hb:xs.length≤1000000) {n:Int} (h0:0≤n) (h1:decide (n<(xs.length:Int))=true) {K:Int→Int→Int→Prop} (h:∀a b c,getV xs n=.agg [.int .i64 a,.int .i64 b,.int .i64 c]→K a b c):
  ∀z:Int,z=(if IntKind.wrap IntKind.i64 ((xs.length:Int)-1)<n then IntKind.wrap IntKind.i64 ((xs.length:Int)-1) else n)→0≤z∧z<(xs.length:Int)∧∃a b c:Int,getV xs z=.agg [.int .i64 a,.int .i64 b,.int .i64 c]∧K a b c:=by
 intro z hz
 have h1:n<xs.length:=by simpa using h1
 have hw:IntKind.wrap IntKind.i64 ((xs.length:Int)-1)=xs.length-1:=by rw [IntKind.wrap_i64];omega
 have e:z=n:=by rw [hz,hw,if_neg (by omega)]
 subst e
 obtain ⟨a,b,c,hv⟩:=hi _ (getV_memL h0 h1)
 exact ⟨h0,h1,a,b,c,hv,h a b c hv⟩
theorem last_idx {xs:List V} {k:Nat} {t n:Int} {ls:List V} (hl:xs.length=k+1) (hk:k≤1000) (hg:getV xs (k:Int)=.agg [.int .i64 t,.int .i64 n,.list false ls]) {K:Int→Int→List V→Prop} (h:K t n ls):
  ∀z:Int,z=IntKind.wrap IntKind.i64 ((xs.length:Int)-1)→0≤z∧z<(xs.length:Int)∧∃(a b:Int) (c:List V),getV xs z=.agg [.int .i64 a,.int .i64 b,.list false c]∧K a b c:=by
 intro z hz
 have e:z=k:=by rw [hz,IntKind.wrap_i64];omega
 subst e
 exact ⟨by omega,by omega,t,n,ls,hg,h⟩
theorem argL1 {t n:Int} {ls:List V}:ArgL [.agg [.int .i64 t,.int .i64 n,.list false ls]]:=fun v hv=>⟨t,n,ls,List.mem_singleton.1 hv⟩
theorem argL2 {t n t' n':Int} {ls ls':List V}:ArgL [.agg [.int .i64 t,.int .i64 n,.list false ls],.agg [.int .i64 t',.int .i64 n',.list false ls']]:=fun v hv=>by
 rcases List.mem_cons.1 hv with h|h
 ·exact ⟨t,n,ls,h⟩
 ·exact ⟨t',n',ls',List.mem_singleton.1 h⟩
theorem nls1 {n:Int}:NLs [.int .i64 n]:=fun v hv=>⟨n,List.mem_singleton.1 hv⟩
theorem must_c {l:LK} {c:Bool} (h:(zW l c).rt=true):c=true:=by
 simp only [zW] at h
 split at h
 ·exact h
 ·cases h
theorem must_le {l:LK} {n:Int} {k:Nat} (h:(zW l (decide ((k:Int)≥n))).rt=true):n≤k:=by
 have:=must_c h
 simpa using this
theorem td {xs:List V} {n:Int} (h0:0≤n):List.take (Int.ofNat xs.length-n).toNat (List.drop n.toNat xs)=List.drop n.toNat xs:=List.take_of_length_le (by simp;omega)
theorem kls_td {xs:List V} (h:KLs xs) (a b:Nat):KLs (List.take a (List.drop b xs)):=fun v hv=>h v (List.mem_of_mem_drop (List.mem_of_mem_take hv))
theorem nls_td {xs:List V} (h:NLs xs) (a b:Nat):NLs (List.take a (List.drop b xs)):=fun v hv=>h v (List.mem_of_mem_drop (List.mem_of_mem_take hv))
theorem len_td {xs:List V} {k:Nat} (h:xs.length≤k) (a b:Nat):(List.take a (List.drop b xs)).length≤k:=by simp;omega
theorem nls_get {ts:List V} (h:NLs ts) (hne:((ts.length:Int)==0)=false) {K:Int→Prop} (hk:∀n,getV ts 0=.int .i64 n→K n):Int.ofNat 0≤0∧(0:Int)<(ts.length:Int)∧∃n,getV ts 0=.int .i64 n∧K n:=by
 have h1:ts.length≠0:=by
  intro h2
  rw [h2] at hne
  simp at hne
 have h2:(0:Int)<ts.length:=by omega
 obtain ⟨n,e⟩:=h _ (getV_memL (Int.le_refl 0) h2)
 exact ⟨by decide,h2,n,e,hk n e⟩
theorem kls_get {ys:List V} (h:KLs ys) {n:Int} (hb:betw n 0 (IntKind.wrap IntKind.i64 ((ys.length:Int)-1))=true) (hl:ys.length≤1000) {K:Int→Int→Prop} (hk:∀m a,getV ys n=.agg [.int .i64 m,.int .i64 a]→K m a):
  0≤n∧n<(ys.length:Int)∧∃m a,getV ys n=.agg [.int .i64 m,.int .i64 a]∧K m a:=by
 have hw:IntKind.wrap IntKind.i64 ((ys.length:Int)-1)=ys.length-1:=by rw [IntKind.wrap_i64];omega
 rw [hw] at hb
 unfold betw at hb
 split at hb
 ·rename_i h1
  have h1:n≥0:=by simpa using h1
  have h2:n≤ys.length-1:=by simpa using hb
  obtain ⟨m,a,e⟩:=klsG h h1 (by omega)
  exact ⟨h1,by omega,m,a,e,hk m a e⟩
 ·cases hb
theorem edge_le {l:LK} {s:FS} {ns:List V} (h:l.es.length≤1000) (hn:ns.length≤100):(edgeL l s ns).es.length≤1100:=by
 show (l.es++edgeRows s ns).length≤1100
 have:=edge_len s ns
 rw [List.length_append];omega
theorem mustL_s (l:LK) (b:Bool):(zW l b).s=l.s:=rfl
theorem lok_ids {l:LK} (h:LOk l):∀v,List.Mem v l.es→V.ids v=[]:=h.2.2.2
theorem op_f {a b k:Int} {p:Prop} (h:a=b) (hn:(b==k)=false) (h2:(a==k)=true):p:=by rw [h,hn] at h2;cases h2
theorem op_t {a b k:Int} {p:Prop} (h:a=b) (hn:(b==k)=true) (h2:(a==k)=false):p:=by rw [h,hn] at h2;cases h2
theorem ag_ltn {xs:List V} {k i:Nat} (h:xs.length=k) (hi:i<k):i<xs.length:=by omega
theorem sok_s {l:LK} (h:LOk l):SOk (arrF 16 l.s.f) l.s.ys l.s.ts:=⟨⟨_,rfl⟩,h.2.1⟩
theorem sok_o {l:LK} (h:LOk l):SOk (arrF 16 l.o.f) l.o.ys l.o.ts:=⟨⟨_,rfl⟩,h.2.2.1⟩
theorem args1 {c0:UInt8} {xs:List V} (h:ArgS [c0] xs):xs.length=1∧(∃(t n:Int) (ls:List V),getV xs 0=.agg [.int .i64 t,.int .i64 n,.list false ls]∧ArgL ls∧ls.length≤1000∧letP c0 t n):=by
 obtain ⟨v0,x0,rfl,h0,h⟩:=args_cons h
 have h:=args_nil h
 subst h
 exact ⟨rfl,h0⟩
theorem args2 {c0 c1:UInt8} {xs:List V} (h:ArgS [c0,c1] xs):xs.length=2∧(∃(t n:Int) (ls:List V),getV xs 0=.agg [.int .i64 t,.int .i64 n,.list false ls]∧ArgL ls∧ls.length≤1000∧letP c0 t n)∧(∃(t n:Int) (ls:List V),getV xs 1=.agg [.int .i64 t,.int .i64 n,.list false ls]∧ArgL ls∧ls.length≤1000∧letP c1 t n):=by
 obtain ⟨v0,x0,rfl,h0,h⟩:=args_cons h
 obtain ⟨v1,x1,rfl,h1,h⟩:=args_cons h
 have h:=args_nil h
 subst h
 exact ⟨rfl,h0,h1⟩
theorem args3 {c0 c1 c2:UInt8} {xs:List V} (h:ArgS [c0,c1,c2] xs):xs.length=3∧(∃(t n:Int) (ls:List V),getV xs 0=.agg [.int .i64 t,.int .i64 n,.list false ls]∧ArgL ls∧ls.length≤1000∧letP c0 t n)∧(∃(t n:Int) (ls:List V),getV xs 1=.agg [.int .i64 t,.int .i64 n,.list false ls]∧ArgL ls∧ls.length≤1000∧letP c1 t n)∧(∃(t n:Int) (ls:List V),getV xs 2=.agg [.int .i64 t,.int .i64 n,.list false ls]∧ArgL ls∧ls.length≤1000∧letP c2 t n):=by
 obtain ⟨v0,x0,rfl,h0,h⟩:=args_cons h
 obtain ⟨v1,x1,rfl,h1,h⟩:=args_cons h
 obtain ⟨v2,x2,rfl,h2,h⟩:=args_cons h
 have h:=args_nil h
 subst h
 exact ⟨rfl,h0,h1,h2⟩
theorem args4 {c0 c1 c2 c9003:UInt8} {xs:List V} (h:ArgS [c0,c1,c2,c9003] xs):xs.length=4∧(∃(t n:Int) (ls:List V),getV xs 0=.agg [.int .i64 t,.int .i64 n,.list false ls]∧ArgL ls∧ls.length≤1000∧letP c0 t n)∧(∃(t n:Int) (ls:List V),getV xs 1=.agg [.int .i64 t,.int .i64 n,.list false ls]∧ArgL ls∧ls.length≤1000∧letP c1 t n)∧(∃(t n:Int) (ls:List V),getV xs 2=.agg [.int .i64 t,.int .i64 n,.list false ls]∧ArgL ls∧ls.length≤1000∧letP c2 t n)∧(∃(t n:Int) (ls:List V),getV xs 3=.agg [.int .i64 t,.int .i64 n,.list false ls]∧ArgL ls∧ls.length≤1000∧letP c9003 t n):=by
 obtain ⟨v0,x0,rfl,h0,h⟩:=args_cons h
 obtain ⟨v1,x1,rfl,h1,h⟩:=args_cons h
 obtain ⟨v2,x2,rfl,h2,h⟩:=args_cons h
 obtain ⟨v3,x3,rfl,h9003,h⟩:=args_cons h
 have h:=args_nil h
 subst h
 exact ⟨rfl,h0,h1,h2,h9003⟩
theorem args5 {c0 c1 c2 c9003 c9004:UInt8} {xs:List V} (h:ArgS [c0,c1,c2,c9003,c9004] xs):xs.length=5∧(∃(t n:Int) (ls:List V),getV xs 0=.agg [.int .i64 t,.int .i64 n,.list false ls]∧ArgL ls∧ls.length≤1000∧letP c0 t n)∧(∃(t n:Int) (ls:List V),getV xs 1=.agg [.int .i64 t,.int .i64 n,.list false ls]∧ArgL ls∧ls.length≤1000∧letP c1 t n)∧(∃(t n:Int) (ls:List V),getV xs 2=.agg [.int .i64 t,.int .i64 n,.list false ls]∧ArgL ls∧ls.length≤1000∧letP c2 t n)∧(∃(t n:Int) (ls:List V),getV xs 3=.agg [.int .i64 t,.int .i64 n,.list false ls]∧ArgL ls∧ls.length≤1000∧letP c9003 t n)∧(∃(t n:Int) (ls:List V),getV xs 4=.agg [.int .i64 t,.int .i64 n,.list false ls]∧ArgL ls∧ls.length≤1000∧letP c9004 t n):=by
 obtain ⟨v0,x0,rfl,h0,h⟩:=args_cons h
 obtain ⟨v1,x1,rfl,h1,h⟩:=args_cons h
 obtain ⟨v2,x2,rfl,h2,h⟩:=args_cons h
 obtain ⟨v3,x3,rfl,h9003,h⟩:=args_cons h
 obtain ⟨v4,x4,rfl,h9004,h⟩:=args_cons h
 have h:=args_nil h
 subst h
 exact ⟨rfl,h0,h1,h2,h9003,h9004⟩
theorem args6 {c0 c1 c2 c9003 c9004 c9005:UInt8} {xs:List V} (h:ArgS [c0,c1,c2,c9003,c9004,c9005] xs):xs.length=6∧(∃(t n:Int) (ls:List V),getV xs 0=.agg [.int .i64 t,.int .i64 n,.list false ls]∧ArgL ls∧ls.length≤1000∧letP c0 t n)∧(∃(t n:Int) (ls:List V),getV xs 1=.agg [.int .i64 t,.int .i64 n,.list false ls]∧ArgL ls∧ls.length≤1000∧letP c1 t n)∧(∃(t n:Int) (ls:List V),getV xs 2=.agg [.int .i64 t,.int .i64 n,.list false ls]∧ArgL ls∧ls.length≤1000∧letP c2 t n)∧(∃(t n:Int) (ls:List V),getV xs 3=.agg [.int .i64 t,.int .i64 n,.list false ls]∧ArgL ls∧ls.length≤1000∧letP c9003 t n)∧(∃(t n:Int) (ls:List V),getV xs 4=.agg [.int .i64 t,.int .i64 n,.list false ls]∧ArgL ls∧ls.length≤1000∧letP c9004 t n)∧(∃(t n:Int) (ls:List V),getV xs 5=.agg [.int .i64 t,.int .i64 n,.list false ls]∧ArgL ls∧ls.length≤1000∧letP c9005 t n):=by
 obtain ⟨v0,x0,rfl,h0,h⟩:=args_cons h
 obtain ⟨v1,x1,rfl,h1,h⟩:=args_cons h
 obtain ⟨v2,x2,rfl,h2,h⟩:=args_cons h
 obtain ⟨v3,x3,rfl,h9003,h⟩:=args_cons h
 obtain ⟨v4,x4,rfl,h9004,h⟩:=args_cons h
 obtain ⟨v5,x5,rfl,h9005,h⟩:=args_cons h
 have h:=args_nil h
 subst h
 exact ⟨rfl,h0,h1,h2,h9003,h9004,h9005⟩
theorem lok_src {l:LK} (h:LOk l) (xs:List V):LOk (srcL l xs):=h
theorem zZ {l:LK} (h:LOk l) (n:Int):LOk (plainL l n):=h
theorem zY {l:LK} (h:LOk l):LOk (calledL l):=h
theorem yF {l:LK} (h:LOk l) (n:Int):LOk (liveL l n):=h
theorem yE {l:LK} (h:LOk l) (n:Int):LOk (takeL l n):=h
theorem putZ_ok {fr:Bool} {ys:List V} {tg n m a:Int} (h:KLs ys):KLs (putZ fr ys tg n m a)∧(putZ fr ys tg n m a).length=ys.length:=by
 unfold putZ
 split
 ·exact ⟨h,rfl⟩
 ·split
  ·split
   ·unfold putY
    refine ⟨fun v hv=>?_,by simp⟩
    rcases List.mem_or_eq_of_mem_set hv with hv|rfl
    ·exact h v hv
    ·exact ⟨_,_,rfl⟩
   ·exact ⟨h,rfl⟩
  ·exact ⟨h,rfl⟩
theorem lok_dst {l:LK} (h:LOk l) (t n m a:Int):LOk (dstL l t n m a):=by
 refine ⟨h.1,h.2.1, ?_,h.2.2.2⟩
 unfold dstL
 simp only
 split
 ·split
  ·obtain ⟨h1,h2⟩:=putZ_ok (fr:=l.o.fr) (tg:=t) (n:=n) (m:=m) (a:=a) h.2.2.1.1
   exact ⟨h1,by simp only;rw [h2];exact h.2.2.1.2.1,h.2.2.1.2.2⟩
  ·exact h.2.2.1
 ·exact h.2.2.1
theorem fin_lk {a b:LK} (h:a=b):[(⟨none,false,lkV a 1⟩:Blk),⟨some 79,false,.agg a.es⟩]=[⟨none,false,lkV b 1⟩,⟨some 79,false,.agg b.es⟩]:=by rw [h]
theorem sp49_ok:SpOk Try.prog sp49:=zA b59_ok (zH h47N_ok (zH h57M_ok (zH h73_ok (zH h74_ok (zD)))))
set_option maxHeartbeats 4000000 in
theorem c49 (l:LK) (hp:GOk l∧(l.op=6∨l.op=7∨l.op=8∨l.op=9∨l.op=10∨l.op=11)):LC 49 [] l (.tup []) (callsG l):=by
 refine callQ_go (own:=none) (pur:=[]) (n1:=1000) (η:=[(0,⟨none,false,lkV l 1⟩),(1,⟨some 79,false,.agg l.es⟩)]) (η1:=[(0,⟨none,false,lkV l 1⟩),(1,⟨some 79,false,.agg l.es⟩)]) (ids:=[0,1]) (ks:=[⟨none,false,lkV (callsG l) 1⟩,⟨some 79,false,.agg (callsG l).es⟩]) (hint:=none) (Ls:=noLs) (hints:=zB) (prs:=zN Try.f49) (N:=158) sp49_ok Try.func49 Try.ntmps49 (by kernel_rfl) (zK (by kernel_rfl)) rfl ((n49 l _ _).mpr ?_)
 obtain ⟨⟨hl,hA,he⟩,hop⟩:=hp
 rcases hop with ho|ho|ho|ho|ho|ho
 all_goals rw [ho] at hA
 obtain ⟨hlen,⟨t0,n0,ls0,g0,a0,b0,p0⟩,⟨t1,n1,ls1,g1,a1,b1,p1⟩⟩:=args2 (xs:=l.ag) hA;rotate_left
 obtain ⟨hlen,⟨t0,n0,ls0,g0,a0,b0,p0⟩,⟨t1,n1,ls1,g1,a1,b1,p1⟩⟩:=args2 (xs:=l.ag) hA;rotate_left
 obtain ⟨hlen,⟨t0,n0,ls0,g0,a0,b0,p0⟩,⟨t1,n1,ls1,g1,a1,b1,p1⟩,⟨t2,n2,ls2,g2,a2,b2,p2⟩⟩:=args3 (xs:=l.ag) hA;rotate_left
 obtain ⟨hlen,⟨t0,n0,ls0,g0,a0,b0,p0⟩,⟨t1,n1,ls1,g1,a1,b1,p1⟩⟩:=args2 (xs:=l.ag) hA;have hz:=u_nn p1;rotate_left
 obtain ⟨hlen,⟨t0,n0,ls0,g0,a0,b0,p0⟩⟩:=args1 (xs:=l.ag) hA;rotate_left
 have hlen:l.ag.length=0:=by rw [args_nil hA];rfl;rotate_left
 all_goals (repeat' (first|(refine idx_min hl.1.2.1 hl.1.2.2.2.1 hz (by assumption) (fun _ _ _ _=>?_))|assumption|(refine ⟨fun h=>absurd h (by rw [ho];decide),fun h=>?_⟩)|(refine ⟨fun h=>?_,fun h=>absurd h (by rw [ho];decide)⟩)|(exact must_le (by assumption))|(exact kls_sz hl.2.1.1)|(exact nls_sz hl.2.1.2.2.1)|(exact kls_td hl.2.1.1 _ _)|(exact nls_td hl.2.1.2.2.1 _ _)|(exact len_td hl.2.1.2.1 _ _)|(exact len_td hl.2.1.2.2.2 _ _)|(exact argL1)|(exact argL2)|(exact nls1)|(exact Nat.le_trans he (by decide))|(exact edge_le he (by simp))|(refine ⟨fun h=>op_f ho (by decide) h,fun h=>?_⟩)|(refine ⟨fun h=>?_,fun h=>op_t ho (by decide) h⟩)|(refine lok_ids ?_;(repeat (first|assumption|apply yB|apply lok_src|apply zZ|apply zY|apply yF|apply yE|apply lok_dst|apply yC));done)|(intro x e;subst e)|(intro h;try simp only [Bool.not_eq_true',Bool.not_eq_false'] at h)|(refine ⟨_,rfl,rfl, ?_⟩)|(exact ⟨_,_,_,g0,a0,b0⟩)|(refine ⟨_,_,_,g0, ?_⟩)|(exact ⟨_,_,_,g1,a1,b1⟩)|(refine ⟨_,_,_,g1, ?_⟩)|(exact ⟨_,_,_,g2,a2,b2⟩)|(refine ⟨_,_,_,g2, ?_⟩)|(refine ⟨_,rfl, ?_⟩)|(refine sok_s ?_;(repeat (first|assumption|apply yB|apply lok_src|apply zZ|apply zY|apply yF|apply yE|apply lok_dst|apply yC));done)|(refine sok_o ?_;(repeat (first|assumption|apply yB|apply lok_src|apply zZ|apply zY|apply yF|apply yE|apply lok_dst|apply yC));done)|((repeat (first|assumption|apply yB|apply lok_src|apply zZ|apply zY|apply yF|apply yE|apply lok_dst|apply yC));done)|(refine And.intro ?_ ?_)))
 all_goals (first|rfl|decide|(rw [ho];decide)|assumption|(simp;done)|(exact Nat.le_trans (by assumption) (by decide))|(exact ag_lt hlen (by decide))|(exact ag_ltn hlen (by decide))|(refine fin_lk ?_;simp only [callsG,nA,nV,thirdA, *,if_true,if_false,Bool.false_eq_true,Bool.not_true,Bool.not_false];done)|(refine fin_lk ?_;simp only [callsG,nA,nV,thirdA, *,if_true,if_false,Bool.false_eq_true,Bool.not_true,Bool.not_false];rfl)|(simp only [callsG,nA,nV,thirdA, *,if_true,if_false,Bool.false_eq_true,Bool.not_true,Bool.not_false];rfl)|(simp only [decide_eq_true_eq] at*;omega)|(exfalso;simp_all [zW];done)|(refine fin_lk ?_;simp_all only [callsG,nA,nV,thirdA,mustL_s,if_true,if_false,Bool.false_eq_true,Bool.not_true,Bool.not_false];done)|skip)
theorem sp52_ok:SpOk Try.prog sp52:=zH h46_ok (zH h47N_ok (zH h48_ok (zH h57M_ok (zA b58_ok (zA b62_ok (zH h78_ok (zH h79_ok (zH h80_ok (zD)))))))))
set_option maxHeartbeats 4000000 in
theorem c52 (l:LK) (hp:GOk l∧(l.op=35∨l.op=36∨l.op=37)):LC 52 [] l (.tup []) (reckonsG l):=by
 refine callQ_go (own:=none) (pur:=[]) (n1:=1000) (η:=[(0,⟨none,false,lkV l 1⟩),(1,⟨some 79,false,.agg l.es⟩)]) (η1:=[(0,⟨none,false,lkV l 1⟩),(1,⟨some 79,false,.agg l.es⟩)]) (ids:=[0,1]) (ks:=[⟨none,false,lkV (reckonsG l) 1⟩,⟨some 79,false,.agg (reckonsG l).es⟩]) (hint:=none) (Ls:=noLs) (hints:=zB) (prs:=zN Try.f52) (N:=82) sp52_ok Try.func52 Try.ntmps52 (by kernel_rfl) (zK (by kernel_rfl)) rfl ((n52 l _ _).mpr ?_)
 obtain ⟨⟨hl,hA,he⟩,hop⟩:=hp
 rcases hop with ho|ho|ho
 all_goals rw [ho] at hA
 obtain ⟨hlen,⟨t0,n0,ls0,g0,a0,b0,p0⟩,⟨t1,n1,ls1,g1,a1,b1,p1⟩,⟨t2,n2,ls2,g2,a2,b2,p2⟩,⟨t3,n9003,ls9003,g3,a3,b9003,p3⟩,⟨t4,n9004,ls9004,g4,a4,b9004,p4⟩,⟨t5,n9005,ls9005,g5,a5,b9005,p5⟩⟩:=args6 (xs:=l.ag) hA;rotate_left
 obtain ⟨hlen,⟨t0,n0,ls0,g0,a0,b0,p0⟩,⟨t1,n1,ls1,g1,a1,b1,p1⟩,⟨t2,n2,ls2,g2,a2,b2,p2⟩,⟨t3,n9003,ls9003,g3,a3,b9003,p3⟩⟩:=args4 (xs:=l.ag) hA;rotate_left
 obtain ⟨hlen,⟨t0,n0,ls0,g0,a0,b0,p0⟩,⟨t1,n1,ls1,g1,a1,b1,p1⟩,⟨t2,n2,ls2,g2,a2,b2,p2⟩,⟨t3,n9003,ls9003,g3,a3,b9003,p3⟩,⟨t4,n9004,ls9004,g4,a4,b9004,p4⟩⟩:=args5 (xs:=l.ag) hA;rotate_left
 all_goals (repeat' (first|(refine last_idx (k:=4) hlen (by decide) g4 ?_)|(refine last_idx (k:=3) hlen (by decide) g3 ?_)|assumption|(refine ⟨fun h=>absurd h (by rw [ho];decide),fun h=>?_⟩)|(refine ⟨fun h=>?_,fun h=>absurd h (by rw [ho];decide)⟩)|(exact must_le (by assumption))|(exact kls_sz hl.2.1.1)|(exact nls_sz hl.2.1.2.2.1)|(exact kls_td hl.2.1.1 _ _)|(exact nls_td hl.2.1.2.2.1 _ _)|(exact len_td hl.2.1.2.1 _ _)|(exact len_td hl.2.1.2.2.2 _ _)|(exact argL1)|(exact argL2)|(exact nls1)|(exact Nat.le_trans he (by decide))|(exact edge_le he (by simp))|(refine ⟨fun h=>op_f ho (by decide) h,fun h=>?_⟩)|(refine ⟨fun h=>?_,fun h=>op_t ho (by decide) h⟩)|(refine last_idx (k:=5) hlen (by decide) g5 ?_)|(refine lok_ids ?_;(repeat (first|assumption|apply yB|apply lok_src|apply zZ|apply zY|apply yF|apply yE|apply lok_dst|apply yC));done)|(intro x e;subst e)|(intro h;try simp only [Bool.not_eq_true',Bool.not_eq_false'] at h)|(refine ⟨_,rfl,rfl, ?_⟩)|(exact ⟨_,_,_,g0,a0,b0⟩)|(refine ⟨_,_,_,g0, ?_⟩)|(exact ⟨_,_,_,g1,a1,b1⟩)|(refine ⟨_,_,_,g1, ?_⟩)|(exact ⟨_,_,_,g2,a2,b2⟩)|(refine ⟨_,_,_,g2, ?_⟩)|(exact ⟨_,_,_,g3,a3,b9003⟩)|(refine ⟨_,_,_,g3, ?_⟩)|(exact ⟨_,_,_,g4,a4,b9004⟩)|(refine ⟨_,_,_,g4, ?_⟩)|(exact ⟨_,_,_,g5,a5,b9005⟩)|(refine ⟨_,_,_,g5, ?_⟩)|(refine ⟨_,rfl, ?_⟩)|(refine sok_s ?_;(repeat (first|assumption|apply yB|apply lok_src|apply zZ|apply zY|apply yF|apply yE|apply lok_dst|apply yC));done)|(refine sok_o ?_;(repeat (first|assumption|apply yB|apply lok_src|apply zZ|apply zY|apply yF|apply yE|apply lok_dst|apply yC));done)|((repeat (first|assumption|apply yB|apply lok_src|apply zZ|apply zY|apply yF|apply yE|apply lok_dst|apply yC));done)|(refine And.intro ?_ ?_)))
 all_goals (first|rfl|decide|(rw [ho];decide)|assumption|(simp;done)|(exact Nat.le_trans (by assumption) (by decide))|(exact ag_lt hlen (by decide))|(exact ag_ltn hlen (by decide))|(refine fin_lk ?_;simp only [reckonsG,nA,nV,dstA, *,if_true,if_false,Bool.false_eq_true,Bool.not_true,Bool.not_false];done)|(refine fin_lk ?_;simp only [reckonsG,nA,nV,dstA, *,if_true,if_false,Bool.false_eq_true,Bool.not_true,Bool.not_false];rfl)|(simp only [reckonsG,nA,nV,dstA, *,if_true,if_false,Bool.false_eq_true,Bool.not_true,Bool.not_false];rfl)|(simp only [decide_eq_true_eq] at*;omega)|(exfalso;simp_all [zW];done)|(refine fin_lk ?_;simp_all only [reckonsG,nA,nV,dstA,mustL_s,if_true,if_false,Bool.false_eq_true,Bool.not_true,Bool.not_false];done)|skip)
theorem sp53_ok:SpOk Try.prog sp53:=zH h46_ok (zH h47N_ok (zH h48_ok (zH h57M_ok (zA b58_ok (zA b62_ok (zH h78_ok (zH h79_ok (zH h80_ok (zH h83_ok (zD))))))))))
set_option maxHeartbeats 4000000 in
theorem c53 (l:LK) (hp:GOk l∧(l.op=38∨l.op=39∨l.op=40∨l.op=41∨l.op=42)):LC 53 [] l (.tup []) (yA l):=by
 refine callQ_go (own:=none) (pur:=[]) (n1:=1000) (η:=[(0,⟨none,false,lkV l 1⟩),(1,⟨some 79,false,.agg l.es⟩)]) (η1:=[(0,⟨none,false,lkV l 1⟩),(1,⟨some 79,false,.agg l.es⟩)]) (ids:=[0,1]) (ks:=[⟨none,false,lkV (yA l) 1⟩,⟨some 79,false,.agg (yA l).es⟩]) (hint:=none) (Ls:=noLs) (hints:=zB) (prs:=zN Try.f53) (N:=141) sp53_ok Try.func53 Try.ntmps53 (by kernel_rfl) (zK (by kernel_rfl)) rfl ((n53 l _ _).mpr ?_)
 obtain ⟨⟨hl,hA,he⟩,hop⟩:=hp
 rcases hop with ho|ho|ho|ho|ho
 all_goals rw [ho] at hA
 obtain ⟨hlen,⟨t0,n0,ls0,g0,a0,b0,p0⟩,⟨t1,n1,ls1,g1,a1,b1,p1⟩,⟨t2,n2,ls2,g2,a2,b2,p2⟩,⟨t3,n9003,ls9003,g3,a3,b9003,p3⟩⟩:=args4 (xs:=l.ag) hA;rotate_left
 obtain ⟨hlen,⟨t0,n0,ls0,g0,a0,b0,p0⟩,⟨t1,n1,ls1,g1,a1,b1,p1⟩,⟨t2,n2,ls2,g2,a2,b2,p2⟩,⟨t3,n9003,ls9003,g3,a3,b9003,p3⟩⟩:=args4 (xs:=l.ag) hA;rotate_left
 obtain ⟨hlen,⟨t0,n0,ls0,g0,a0,b0,p0⟩,⟨t1,n1,ls1,g1,a1,b1,p1⟩,⟨t2,n2,ls2,g2,a2,b2,p2⟩,⟨t3,n9003,ls9003,g3,a3,b9003,p3⟩,⟨t4,n9004,ls9004,g4,a4,b9004,p4⟩⟩:=args5 (xs:=l.ag) hA;rotate_left
 obtain ⟨hlen,⟨t0,n0,ls0,g0,a0,b0,p0⟩,⟨t1,n1,ls1,g1,a1,b1,p1⟩,⟨t2,n2,ls2,g2,a2,b2,p2⟩⟩:=args3 (xs:=l.ag) hA;rotate_left
 obtain ⟨hlen,⟨t0,n0,ls0,g0,a0,b0,p0⟩,⟨t1,n1,ls1,g1,a1,b1,p1⟩,⟨t2,n2,ls2,g2,a2,b2,p2⟩⟩:=args3 (xs:=l.ag) hA;rotate_left
 all_goals (repeat' (first|assumption|(refine ⟨fun h=>absurd h (by rw [ho];decide),fun h=>?_⟩)|(refine ⟨fun h=>?_,fun h=>absurd h (by rw [ho];decide)⟩)|(exact must_le (by assumption))|(exact kls_sz hl.2.1.1)|(exact nls_sz hl.2.1.2.2.1)|(exact kls_td hl.2.1.1 _ _)|(exact nls_td hl.2.1.2.2.1 _ _)|(exact len_td hl.2.1.2.1 _ _)|(exact len_td hl.2.1.2.2.2 _ _)|(exact argL1)|(exact argL2)|(exact nls1)|(exact Nat.le_trans he (by decide))|(exact edge_le he (by simp))|(refine ⟨fun h=>op_f ho (by decide) h,fun h=>?_⟩)|(refine ⟨fun h=>?_,fun h=>op_t ho (by decide) h⟩)|(refine lok_ids ?_;(repeat (first|assumption|apply yB|apply lok_src|apply zZ|apply zY|apply yF|apply yE|apply lok_dst|apply yC));done)|(intro x e;subst e)|(intro h;try simp only [Bool.not_eq_true',Bool.not_eq_false'] at h)|(refine ⟨_,rfl,rfl, ?_⟩)|(exact ⟨_,_,_,g0,a0,b0⟩)|(refine ⟨_,_,_,g0, ?_⟩)|(exact ⟨_,_,_,g1,a1,b1⟩)|(refine ⟨_,_,_,g1, ?_⟩)|(exact ⟨_,_,_,g2,a2,b2⟩)|(refine ⟨_,_,_,g2, ?_⟩)|(exact ⟨_,_,_,g3,a3,b9003⟩)|(refine ⟨_,_,_,g3, ?_⟩)|(exact ⟨_,_,_,g4,a4,b9004⟩)|(refine ⟨_,_,_,g4, ?_⟩)|(refine ⟨_,rfl, ?_⟩)|(refine sok_s ?_;(repeat (first|assumption|apply yB|apply lok_src|apply zZ|apply zY|apply yF|apply yE|apply lok_dst|apply yC));done)|(refine sok_o ?_;(repeat (first|assumption|apply yB|apply lok_src|apply zZ|apply zY|apply yF|apply yE|apply lok_dst|apply yC));done)|((repeat (first|assumption|apply yB|apply lok_src|apply zZ|apply zY|apply yF|apply yE|apply lok_dst|apply yC));done)|(refine And.intro ?_ ?_)))
 all_goals (first|rfl|decide|(rw [ho];decide)|assumption|(simp;done)|(exact Nat.le_trans (by assumption) (by decide))|(exact ag_lt hlen (by decide))|(exact ag_ltn hlen (by decide))|(refine fin_lk ?_;simp only [yA,matchedA,edge1,tagV,kdV,nA,nV,dstA, *,if_true,if_false,Bool.false_eq_true,Bool.not_true,Bool.not_false];done)|(refine fin_lk ?_;simp only [yA,matchedA,edge1,tagV,kdV,nA,nV,dstA, *,if_true,if_false,Bool.false_eq_true,Bool.not_true,Bool.not_false];rfl)|(simp only [yA,matchedA,edge1,tagV,kdV,nA,nV,dstA, *,if_true,if_false,Bool.false_eq_true,Bool.not_true,Bool.not_false];rfl)|(simp only [decide_eq_true_eq] at*;omega)|(exfalso;simp_all [zW];done)|(refine fin_lk ?_;simp_all only [yA,matchedA,edge1,tagV,kdV,nA,nV,dstA,mustL_s,if_true,if_false,Bool.false_eq_true,Bool.not_true,Bool.not_false];done)|skip)
theorem sp55_ok:SpOk Try.prog sp55:=zH h47N_ok (zH h48_ok (zH h57M_ok (zA b62_ok (zH h71_ok (zH h78_ok (zH h79_ok (zH h80_ok (zH h85_ok (zD)))))))))
set_option maxHeartbeats 4000000 in
theorem c55 (l:LK) (hp:GOk l∧(l.op=4∨l.op=34∨l.op=17∨l.op=18∨l.op=19∨l.op=20∨l.op=43∨l.op=44)):LC 55 [] l (.tup []) (makesG l):=by
 refine callQ_go (own:=none) (pur:=[]) (n1:=1000) (η:=[(0,⟨none,false,lkV l 1⟩),(1,⟨some 79,false,.agg l.es⟩)]) (η1:=[(0,⟨none,false,lkV l 1⟩),(1,⟨some 79,false,.agg l.es⟩)]) (ids:=[0,1]) (ks:=[⟨none,false,lkV (makesG l) 1⟩,⟨some 79,false,.agg (makesG l).es⟩]) (hint:=none) (Ls:=noLs) (hints:=zB) (prs:=zN Try.f55) (N:=190) sp55_ok Try.func55 Try.ntmps55 (by kernel_rfl) (zK (by kernel_rfl)) rfl ((n55 l _ _).mpr ?_)
 obtain ⟨⟨hl,hA,he⟩,hop⟩:=hp
 rcases hop with ho|ho|ho|ho|ho|ho|ho|ho
 all_goals rw [ho] at hA
 obtain ⟨hlen,⟨t0,n0,ls0,g0,a0,b0,p0⟩,⟨t1,n1,ls1,g1,a1,b1,p1⟩⟩:=args2 (xs:=l.ag) hA;rotate_left
 obtain ⟨hlen,⟨t0,n0,ls0,g0,a0,b0,p0⟩,⟨t1,n1,ls1,g1,a1,b1,p1⟩⟩:=args2 (xs:=l.ag) hA;rotate_left
 obtain ⟨hlen,⟨t0,n0,ls0,g0,a0,b0,p0⟩,⟨t1,n1,ls1,g1,a1,b1,p1⟩,⟨t2,n2,ls2,g2,a2,b2,p2⟩⟩:=args3 (xs:=l.ag) hA;rotate_left
 obtain ⟨hlen,⟨t0,n0,ls0,g0,a0,b0,p0⟩,⟨t1,n1,ls1,g1,a1,b1,p1⟩⟩:=args2 (xs:=l.ag) hA;rotate_left
 obtain ⟨hlen,⟨t0,n0,ls0,g0,a0,b0,p0⟩,⟨t1,n1,ls1,g1,a1,b1,p1⟩,⟨t2,n2,ls2,g2,a2,b2,p2⟩⟩:=args3 (xs:=l.ag) hA;rotate_left
 obtain ⟨hlen,⟨t0,n0,ls0,g0,a0,b0,p0⟩,⟨t1,n1,ls1,g1,a1,b1,p1⟩,⟨t2,n2,ls2,g2,a2,b2,p2⟩⟩:=args3 (xs:=l.ag) hA;rotate_left
 obtain ⟨hlen,⟨t0,n0,ls0,g0,a0,b0,p0⟩,⟨t1,n1,ls1,g1,a1,b1,p1⟩,⟨t2,n2,ls2,g2,a2,b2,p2⟩⟩:=args3 (xs:=l.ag) hA;rotate_left
 obtain ⟨hlen,⟨t0,n0,ls0,g0,a0,b0,p0⟩,⟨t1,n1,ls1,g1,a1,b1,p1⟩,⟨t2,n2,ls2,g2,a2,b2,p2⟩⟩:=args3 (xs:=l.ag) hA;have hz:=u_nn p0;rotate_left
 all_goals (repeat' (first|assumption|(refine ⟨fun h=>absurd h (by rw [ho];decide),fun h=>?_⟩)|(refine ⟨fun h=>?_,fun h=>absurd h (by rw [ho];decide)⟩)|(exact must_le (by assumption))|(exact kls_sz hl.2.1.1)|(exact nls_sz hl.2.1.2.2.1)|(exact kls_td hl.2.1.1 _ _)|(exact nls_td hl.2.1.2.2.1 _ _)|(exact len_td hl.2.1.2.1 _ _)|(exact len_td hl.2.1.2.2.2 _ _)|(exact argL1)|(exact argL2)|(exact nls1)|(exact Nat.le_trans he (by decide))|(exact edge_le he (by simp))|(refine ⟨fun h=>op_f ho (by decide) h,fun h=>?_⟩)|(refine ⟨fun h=>?_,fun h=>op_t ho (by decide) h⟩)|(refine idx_min hl.1.2.2.1 hl.1.2.2.2.2 hz (by assumption) (fun _ _ _ _=>?_))|(refine lok_ids ?_;(repeat (first|assumption|apply yB|apply lok_src|apply zZ|apply zY|apply yF|apply yE|apply lok_dst|apply yC));done)|(intro x e;subst e)|(intro h;try simp only [Bool.not_eq_true',Bool.not_eq_false'] at h)|(refine ⟨_,rfl,rfl, ?_⟩)|(exact ⟨_,_,_,g0,a0,b0⟩)|(refine ⟨_,_,_,g0, ?_⟩)|(exact ⟨_,_,_,g1,a1,b1⟩)|(refine ⟨_,_,_,g1, ?_⟩)|(exact ⟨_,_,_,g2,a2,b2⟩)|(refine ⟨_,_,_,g2, ?_⟩)|(refine ⟨_,rfl, ?_⟩)|(refine sok_s ?_;(repeat (first|assumption|apply yB|apply lok_src|apply zZ|apply zY|apply yF|apply yE|apply lok_dst|apply yC));done)|(refine sok_o ?_;(repeat (first|assumption|apply yB|apply lok_src|apply zZ|apply zY|apply yF|apply yE|apply lok_dst|apply yC));done)|((repeat (first|assumption|apply yB|apply lok_src|apply zZ|apply zY|apply yF|apply yE|apply lok_dst|apply yC));done)|(refine And.intro ?_ ?_)))
 all_goals (first|rfl|decide|(rw [ho];decide)|assumption|(simp;done)|(exact Nat.le_trans (by assumption) (by decide))|(exact ag_lt hlen (by decide))|(exact ag_ltn hlen (by decide))|(refine fin_lk ?_;simp only [makesG,lsA,thirdA,kdV,nA,nV,dstA, *,if_true,if_false,Bool.false_eq_true,Bool.not_true,Bool.not_false];done)|(refine fin_lk ?_;simp only [makesG,lsA,thirdA,kdV,nA,nV,dstA, *,if_true,if_false,Bool.false_eq_true,Bool.not_true,Bool.not_false];rfl)|(simp only [makesG,lsA,thirdA,kdV,nA,nV,dstA, *,if_true,if_false,Bool.false_eq_true,Bool.not_true,Bool.not_false];rfl)|(simp only [decide_eq_true_eq] at*;omega)|(exfalso;simp_all [zW];done)|(refine fin_lk ?_;simp_all only [makesG,lsA,thirdA,kdV,nA,nV,dstA,mustL_s,if_true,if_false,Bool.false_eq_true,Bool.not_true,Bool.not_false];done)|skip)
theorem sp50_ok:SpOk Try.prog sp50:=zA b75_ok (zH h47N_ok (zH h57M_ok (zA b61_ok (zA b62_ok (zA b76_ok (zA b77_ok (zH h78_ok (zH h79_ok (zH h80_ok (zD))))))))))
set_option maxHeartbeats 4000000 in
theorem c50 (l:LK) (hp:GOk l∧(l.op=12∨l.op=13∨l.op=14∨l.op=15∨l.op=16)):LC 50 [] l (.tup []) (framesG l):=by
 refine callQ_go (own:=none) (pur:=[(0,[3])]) (n1:=1000) (η:=[(0,⟨none,false,lkV l 1⟩),(1,⟨some 79,false,.agg l.es⟩)]) (η1:=[(0,⟨none,false,lkV l 1⟩),(1,⟨some 79,false,.agg l.es⟩)]) (ids:=[0,1]) (ks:=[⟨none,false,lkV (framesG l) 1⟩,⟨some 79,false,.agg (framesG l).es⟩]) (hint:=none) (Ls:=noLs) (hints:=zB) (prs:=zN Try.f50) (N:=145) sp50_ok Try.func50 Try.ntmps50 (by kernel_rfl) (zK (by kernel_rfl)) rfl ((n50 l _ _).mpr ?_)
 obtain ⟨⟨hl,hA,he⟩,hop⟩:=hp
 rcases hop with ho|ho|ho|ho|ho
 all_goals rw [ho] at hA
 obtain ⟨hlen,⟨t0,n0,ls0,g0,a0,b0,p0⟩,⟨t1,n1,ls1,g1,a1,b1,p1⟩⟩:=args2 (xs:=l.ag) hA;have hz:=u_nn p0;rotate_left
 obtain ⟨hlen,⟨t0,n0,ls0,g0,a0,b0,p0⟩⟩:=args1 (xs:=l.ag) hA;have hz:=u_nn p0;rotate_left
 obtain ⟨hlen,⟨t0,n0,ls0,g0,a0,b0,p0⟩⟩:=args1 (xs:=l.ag) hA;have hz:=u_nn p0;rotate_left
 obtain ⟨hlen,⟨t0,n0,ls0,g0,a0,b0,p0⟩⟩:=args1 (xs:=l.ag) hA;rotate_left
 obtain ⟨hlen,⟨t0,n0,ls0,g0,a0,b0,p0⟩,⟨t1,n1,ls1,g1,a1,b1,p1⟩⟩:=args2 (xs:=l.ag) hA;have hz:=u_nn p0;rotate_left
 all_goals (repeat' (first|assumption|(refine ⟨fun h=>absurd h (by rw [ho];decide),fun h=>?_⟩)|(refine ⟨fun h=>?_,fun h=>absurd h (by rw [ho];decide)⟩)|(exact must_le (by assumption))|(exact kls_sz hl.2.1.1)|(exact nls_sz hl.2.1.2.2.1)|(exact kls_td hl.2.1.1 _ _)|(exact nls_td hl.2.1.2.2.1 _ _)|(exact len_td hl.2.1.2.1 _ _)|(exact len_td hl.2.1.2.2.2 _ _)|(exact argL1)|(exact argL2)|(exact nls1)|(exact Nat.le_trans he (by decide))|(exact edge_le he (by simp))|(refine ⟨fun h=>op_f ho (by decide) h,fun h=>?_⟩)|(refine ⟨fun h=>?_,fun h=>op_t ho (by decide) h⟩)|(refine lok_ids ?_;(repeat (first|assumption|apply yB|apply lok_src|apply zZ|apply zY|apply yF|apply yE|apply lok_dst|apply yC));done)|(intro x e;subst e)|(intro h;try simp only [Bool.not_eq_true',Bool.not_eq_false'] at h)|(refine ⟨_,rfl,rfl, ?_⟩)|(exact ⟨_,_,_,g0,a0,b0⟩)|(refine ⟨_,_,_,g0, ?_⟩)|(exact ⟨_,_,_,g1,a1,b1⟩)|(refine ⟨_,_,_,g1, ?_⟩)|(refine ⟨_,rfl, ?_⟩)|(refine sok_s ?_;(repeat (first|assumption|apply yB|apply lok_src|apply zZ|apply zY|apply yF|apply yE|apply lok_dst|apply yC));done)|(refine sok_o ?_;(repeat (first|assumption|apply yB|apply lok_src|apply zZ|apply zY|apply yF|apply yE|apply lok_dst|apply yC));done)|((repeat (first|assumption|apply yB|apply lok_src|apply zZ|apply zY|apply yF|apply yE|apply lok_dst|apply yC));done)|(refine And.intro ?_ ?_)))
 all_goals (first|rfl|decide|(rw [ho];decide)|assumption|(simp;done)|(exact Nat.le_trans (by assumption) (by decide))|(exact ag_lt hlen (by decide))|(exact ag_ltn hlen (by decide))|(refine fin_lk ?_;simp only [framesG,bareB,kdV,nA,nV,dstA, *,if_true,if_false,Bool.false_eq_true,Bool.not_true,Bool.not_false];done)|(refine fin_lk ?_;simp only [framesG,bareB,kdV,nA,nV,dstA, *,if_true,if_false,Bool.false_eq_true,Bool.not_true,Bool.not_false];rfl)|(simp only [framesG,bareB,kdV,nA,nV,dstA, *,if_true,if_false,Bool.false_eq_true,Bool.not_true,Bool.not_false];rfl)|(simp only [decide_eq_true_eq] at*;omega)|(exfalso;simp_all [zW];done)|(refine fin_lk ?_;simp_all only [framesG,bareB,kdV,nA,nV,dstA,mustL_s,if_true,if_false,Bool.false_eq_true,Bool.not_true,Bool.not_false];done)|(refine fin_lk ?_;simp only [framesG,bareB,kdV,nA,nV,dstA,td hz, *,if_true,if_false,Bool.false_eq_true,Bool.not_true,Bool.not_false];done)|(refine fin_lk ?_;simp only [framesG,bareB,kdV,nA,nV,dstA,td hz, *,if_true,if_false,Bool.false_eq_true,Bool.not_true,Bool.not_false];rfl)|(simp only [framesG,bareB,kdV,nA,nV,dstA,td hz, *,if_true,if_false,Bool.false_eq_true,Bool.not_true,Bool.not_false];rfl)|(refine fin_lk ?_;simp_all only [framesG,bareB,kdV,nA,nV,dstA,td hz,mustL_s,if_true,if_false,Bool.false_eq_true,Bool.not_true,Bool.not_false];done)|skip)
end GoL
