/- A part of the proof: a logic proved sound over the model; contracts; plain laws. -/
import Derived.Test.YteeaefidpkifbaaG4N
import Derived.Test.YteeaefidpkifbaaG3P
set_option linter.all false
open Go Go.Proofs
namespace GoL
set_option maxRecDepth 8000
attribute [local irreducible] wC
theorem testsG_33 {l:LK} (ho:l.op=33):testsG l={ edge1 (srcL l [getV l.ag 0]) l.s (nA l 1) with es:=(edge1 (srcL l [getV l.ag 0]) l.s (nA l 1)).es++selRows l.s (lsA (getV l.ag 2)) }:=by
 unfold testsG
 rw [if_pos (by rw [ho];rfl)]
theorem testsG_lo {l:LK} (h1:(l.op==33)=false) (h2:decide (l.op>28)=false) (h9003:(l.op==28)=false):testsG l=testsLo l:=by
 unfold testsG
 rw [if_neg (by rw [h1];decide),if_neg (by rw [h2];decide),if_neg (by rw [h9003];decide)]
theorem sp51_ok:SpOk Try.prog sp51:=zH h46_ok (zH h47N_ok (zH h48_ok (zH h57M_ok (zA b60_ok (zH h71_ok (zH h79_ok (zA b81_ok (zA b82_ok (zD)))))))))
theorem selRows_step (s:FS) {ls:List V} {i:Int} (h0:1≤i) (h:i<ls.length):selRows s (ls.drop (i-1).toNat)=edgeRows s [.int .i64 (nV (getV ls i))]++selRows s (ls.drop (i+1).toNat):=by
 have e1:ls.drop (i-1).toNat=getV ls (i-1)::ls.drop (i-1+1).toNat:=drop_dec (by omega) (by omega)
 have e2:(i-1+1:Int)=i:=by omega
 rw [e2] at e1
 rw [e1,drop_dec (by omega) h]
 rfl
theorem selRows_stop (s:FS) {ls:List V} {i:Int} (h0:1≤i) (h:(ls.length:Int)≤i):selRows s (ls.drop (i-1).toNat)=[]:=by
 by_cases h1:(ls.length:Int)=i
 ·by_cases h2:ls=[]
  ·subst h2;simp [selRows]
  ·have h9003:i-1<ls.length:=by omega
   rw [drop_dec (by omega) h9003]
   have:ls.drop (i-1+1).toNat=[]:=List.drop_eq_nil_of_le (by omega)
   rw [this];rfl
 ·have:ls.drop (i-1).toNat=[]:=List.drop_eq_nil_of_le (by omega)
  rw [this];rfl
theorem lp51:LsOk Try.prog 167 1024 [0,3] [0,1] ent51 (zP Try.f51 0).2:=by
 intro vs ks K h
 unfold ent51 at h
 split at h
 ·rename_i i t rows
  obtain ⟨rfl,l,rfl,rfl,hl,he,h2,⟨t0,n0,ls,hg,ha,hb⟩,hK⟩:=h
  refine zT (hints:=zB) (prs:=zN Try.f51) (Ls:=noLs) sp51_ok ends51_0 (γ:=LK×Int) (fun g=>[.ptr 0 0 [],.int .i64 g.2]) (fun g=>[⟨none,false,lkV g.1 1⟩,⟨some 79,false,.agg g.1.es⟩]) (fun g=>ls.length+2-g.2.toNat)
   (fun g=>1≤g.2∧g.2≤ls.length+2∧LOk g.1∧g.1.ag=l.ag∧g.1.s=l.s∧g.1.es.length≤1100+g.2.toNat∧{ g.1 with es:=g.1.es++selRows l.s (ls.drop (g.2-1).toNat) }={ l with es:=l.es++selRows l.s ls }) K (zK (by kernel_rfl)) ?_ (l,1) ⟨Int.le_refl _,by show (1:Int)≤_;omega,hl,rfl,rfl,by show l.es.length≤1100+_;omega,rfl⟩
  rintro ⟨l1,i⟩ ⟨h0,h1,hl1,hag,hs,he1,h9004⟩
  simp only at h0 h1 hl1 hag hs he1 h9004
  refine (nl51_0 l1 i _ _ _).mpr ?_
  rw [←hag] at hg h2
  refine ⟨l1,rfl,rfl,by decide,by show (2:Int)<l1.ag.length;omega,t0,n0,ls,hg,fun _ x5 e5 x7 e7=>?_⟩
  subst e5 e7
  refine ⟨fun h9005=>?_,fun h9005=>?_⟩
  ·simp only [decide_eq_true_eq] at h9005
   obtain ⟨t1,n1,ls1,e⟩:=ha _ (getV_memL (by omega) h9005)
   refine ⟨l1,rfl,rfl,by decide,by show (2:Int)<l1.ag.length;omega,t0,n0,ls,hg,by omega,h9005,t1,n1,ls1,e,rfl,l1,rfl,rfl,hl1,nls1,by simp,by omega,_,rfl,fun l2 e2 y hy=>?_⟩
   have hw:IntKind.wrap IntKind.i64 (i+2)=i+2:=by rw [IntKind.wrap_i64];omega
   rw [hw] at hy
   subst hy
   rw [selRows_step l.s h0 h9005,e] at h9004
   have h8:l2={ l1 with es:=l1.es++edgeRows l.s [.int .i64 n1] }:=by rw [e2,←hs];rfl
   have hl2:LOk l2:=by rw [e2];exact yC hl1 _ _
   have hn:(edgeRows l.s [.int .i64 n1]).length≤1:=edge_len _ _
   refine ⟨hl2.2.2.2,(l2,i+2),rfl,rfl,by show ls.length+2-(i+2).toNat<ls.length+2-i.toNat;omega,by show 1≤i+2;omega,by show i+2≤_;omega,hl2,by rw [h8];exact hag,by rw [h8];exact hs, ?_, ?_⟩
   ·rw [h8]
    show (l1.es++edgeRows l.s [.int .i64 n1]).length≤1100+(i+2).toNat
    rw [List.length_append];omega
   ·have e3:(i+2-1:Int)=i+1:=by omega
    show { l2 with es:=l2.es++selRows l.s (ls.drop (i+2-1).toNat) }=_
    rw [e3,←h9004,h8]
    simp only [List.append_assoc]
    rfl
  ·simp only [decide_eq_false_iff_not] at h9005
   rw [selRows_stop l.s h0 (by omega),List.append_nil] at h9004
   refine ⟨hl1.2.2.2,hK l1 ?_⟩
   rw [hag] at hg
   rw [hg]
   exact h9004
 ·exact h.elim
set_option maxHeartbeats 4000000 in
theorem c51 (l:LK) (hp:GOk l∧(l.op=33∨l.op=29∨l.op=30∨l.op=31∨l.op=32∨l.op=28∨l.op=21∨l.op=22∨l.op=23∨l.op=24∨l.op=25∨l.op=26∨l.op=27)):LC 51 [] l (.tup []) (testsG l):=by
 refine callQ_go (own:=none) (pur:=[]) (n1:=1000) (η:=[(0,⟨none,false,lkV l 1⟩),(1,⟨some 79,false,.agg l.es⟩)]) (η1:=[(0,⟨none,false,lkV l 1⟩),(1,⟨some 79,false,.agg l.es⟩)]) (ids:=[0,1]) (ks:=[⟨none,false,lkV (testsG l) 1⟩,⟨some 79,false,.agg (testsG l).es⟩]) (hint:=none) (Ls:=ls51) (hints:=zB) (prs:=zN Try.f51) (N:=167) sp51_ok Try.func51 Try.ntmps51 (by kernel_rfl) (zR fun p hp=>by
  have e:loopsOf 0 (zC Try.f51)=[zP Try.f51 0]:=by kernel_rfl
  rw [e] at hp
  simp only [List.mem_cons,List.not_mem_nil,or_false] at hp
  subst hp
  exact zU lp51) rfl ((n51 l _ _).mpr ?_)
 obtain ⟨⟨hl,hA,he⟩,hop⟩:=hp
 rcases hop with ho|ho|ho|ho|ho|ho|ho|ho|ho|ho|ho|ho|ho
 all_goals rw [ho] at hA
 obtain ⟨hlen,⟨t0,n0,ls0,g0,a0,b0,p0⟩,⟨t1,n1,ls1,g1,a1,b1,p1⟩,⟨t2,n2,ls2,g2,a2,b2,p2⟩⟩:=args3 (xs:=l.ag) hA;rotate_left
 obtain ⟨hlen,⟨t0,n0,ls0,g0,a0,b0,p0⟩,⟨t1,n1,ls1,g1,a1,b1,p1⟩,⟨t2,n2,ls2,g2,a2,b2,p2⟩⟩:=args3 (xs:=l.ag) hA;rotate_left
 obtain ⟨hlen,⟨t0,n0,ls0,g0,a0,b0,p0⟩,⟨t1,n1,ls1,g1,a1,b1,p1⟩,⟨t2,n2,ls2,g2,a2,b2,p2⟩⟩:=args3 (xs:=l.ag) hA;rotate_left
 obtain ⟨hlen,⟨t0,n0,ls0,g0,a0,b0,p0⟩,⟨t1,n1,ls1,g1,a1,b1,p1⟩,⟨t2,n2,ls2,g2,a2,b2,p2⟩⟩:=args3 (xs:=l.ag) hA;rotate_left
 obtain ⟨hlen,⟨t0,n0,ls0,g0,a0,b0,p0⟩,⟨t1,n1,ls1,g1,a1,b1,p1⟩,⟨t2,n2,ls2,g2,a2,b2,p2⟩⟩:=args3 (xs:=l.ag) hA;rotate_left
 obtain ⟨hlen,⟨t0,n0,ls0,g0,a0,b0,p0⟩,⟨t1,n1,ls1,g1,a1,b1,p1⟩,⟨t2,n2,ls2,g2,a2,b2,p2⟩⟩:=args3 (xs:=l.ag) hA;rotate_left
 obtain ⟨hlen,⟨t0,n0,ls0,g0,a0,b0,p0⟩,⟨t1,n1,ls1,g1,a1,b1,p1⟩⟩:=args2 (xs:=l.ag) hA;rotate_left
 obtain ⟨hlen,⟨t0,n0,ls0,g0,a0,b0,p0⟩,⟨t1,n1,ls1,g1,a1,b1,p1⟩⟩:=args2 (xs:=l.ag) hA;rotate_left
 obtain ⟨hlen,⟨t0,n0,ls0,g0,a0,b0,p0⟩,⟨t1,n1,ls1,g1,a1,b1,p1⟩⟩:=args2 (xs:=l.ag) hA;rotate_left
 obtain ⟨hlen,⟨t0,n0,ls0,g0,a0,b0,p0⟩,⟨t1,n1,ls1,g1,a1,b1,p1⟩⟩:=args2 (xs:=l.ag) hA;rotate_left
 obtain ⟨hlen,⟨t0,n0,ls0,g0,a0,b0,p0⟩,⟨t1,n1,ls1,g1,a1,b1,p1⟩⟩:=args2 (xs:=l.ag) hA;rotate_left
 obtain ⟨hlen,⟨t0,n0,ls0,g0,a0,b0,p0⟩,⟨t1,n1,ls1,g1,a1,b1,p1⟩⟩:=args2 (xs:=l.ag) hA;rotate_left
 obtain ⟨hlen,⟨t0,n0,ls0,g0,a0,b0,p0⟩,⟨t1,n1,ls1,g1,a1,b1,p1⟩⟩:=args2 (xs:=l.ag) hA;rotate_left
 all_goals (repeat' (first|assumption|(refine ⟨fun h=>absurd h (by rw [ho];decide),fun h=>?_⟩)|(refine ⟨fun h=>?_,fun h=>absurd h (by rw [ho];decide)⟩)|(exact must_le (by assumption))|(exact kls_sz hl.2.1.1)|(exact nls_sz hl.2.1.2.2.1)|(exact kls_td hl.2.1.1 _ _)|(exact nls_td hl.2.1.2.2.1 _ _)|(exact len_td hl.2.1.2.1 _ _)|(exact len_td hl.2.1.2.2.2 _ _)|(exact argL1)|(exact argL2)|(exact nls1)|(exact Nat.le_trans he (by decide))|(exact edge_le he (by simp))|(refine ⟨fun h=>op_f ho (by decide) h,fun h=>?_⟩)|(refine ⟨fun h=>?_,fun h=>op_t ho (by decide) h⟩)|(refine lok_ids ?_;(repeat (first|assumption|apply yB|apply lok_src|apply zZ|apply zY|apply yF|apply yE|apply lok_dst|apply yC));done)|(intro x e;subst e)|(intro h;try simp only [Bool.not_eq_true',Bool.not_eq_false'] at h)|(refine ⟨_,rfl,rfl, ?_⟩)|(exact ⟨_,_,_,g0,a0,b0⟩)|(refine ⟨_,_,_,g0, ?_⟩)|(exact ⟨_,_,_,g1,a1,b1⟩)|(refine ⟨_,_,_,g1, ?_⟩)|(exact ⟨_,_,_,g2,a2,b2⟩)|(refine ⟨_,_,_,g2, ?_⟩)|(refine ⟨_,rfl, ?_⟩)|(refine sok_s ?_;(repeat (first|assumption|apply yB|apply lok_src|apply zZ|apply zY|apply yF|apply yE|apply lok_dst|apply yC));done)|(refine sok_o ?_;(repeat (first|assumption|apply yB|apply lok_src|apply zZ|apply zY|apply yF|apply yE|apply lok_dst|apply yC));done)|((repeat (first|assumption|apply yB|apply lok_src|apply zZ|apply zY|apply yF|apply yE|apply lok_dst|apply yC));done)|(refine And.intro ?_ ?_)))
 all_goals (first|(refine fin_lk ?_;rw [testsG_33 ho];simp only [g0,g1,nA,nV];rfl)|(rw [testsG_lo (by rw [ho];rfl) (by rw [ho];rfl) (by rw [ho];rfl)];unfold testsLo;rw [if_pos (by simp only [noK,g1,kdV,maskB];assumption)];simp only [noK,yesK,g0,g1,kdV,maskB,refS,nA,nV,edge1];rfl)|(rw [testsG_lo (by rw [ho];rfl) (by rw [ho];rfl) (by rw [ho];rfl)];unfold testsLo;rw [if_neg (by simp only [noK,g1,kdV,maskB,Bool.not_eq_true];assumption)];simp only [noK,yesK,g0,g1,kdV,maskB,refS,nA,nV,edge1];rfl)|rfl|decide|(rw [ho];decide)|assumption|(simp;done)|(exact Nat.le_trans (by assumption) (by decide))|(exact ag_lt hlen (by decide))|(exact ag_ltn hlen (by decide))|(refine fin_lk ?_;simp only [testsG,edge1,lsA,kdV,nA,nV,refS, *,if_true,if_false,Bool.false_eq_true,Bool.not_true,Bool.not_false];done)|(refine fin_lk ?_;simp only [testsG,edge1,lsA,kdV,nA,nV,refS, *,if_true,if_false,Bool.false_eq_true,Bool.not_true,Bool.not_false];rfl)|(simp only [testsG,edge1,lsA,kdV,nA,nV,refS, *,if_true,if_false,Bool.false_eq_true,Bool.not_true,Bool.not_false];rfl)|(simp only [decide_eq_true_eq] at*;omega)|(exfalso;simp_all [zW];done)|(refine fin_lk ?_;simp_all only [testsG,edge1,lsA,kdV,nA,nV,refS,mustL_s,if_true,if_false,Bool.false_eq_true,Bool.not_true,Bool.not_false];done)|skip)
theorem sp54_ok:SpOk Try.prog sp54:=zA b72_ok (zH h47N_ok (zH h57M_ok (zA b60_ok (zA b61_ok (zA b62_ok (zH h77_ok (zA b84_ok (zD))))))))
theorem kls_ids {ys:List V} (h:KLs ys):NoIds ys:=fun v hv=>by
 obtain ⟨m,a,rfl⟩:=h v hv
 rfl
theorem lp54:LsOk Try.prog 166 1045 [0,2,45,46,47] [0,1,1027] ent54 (zP Try.f54 0).2:=by
 intro vs ks K h
 unfold ent54 at h
 split at h
 ·rename_i y ts n i t rows yr
  obtain ⟨rfl,rfl,hn,hb,l,rfl,rfl,rfl,he,hy,hK⟩:=h
  refine zT (hints:=zB) (prs:=zN Try.f54) (Ls:=noLs) sp54_ok ends54_0 (γ:=LK×Int) (fun g=>[.ptr 0 0 [],.int .i64 y,.list false ts,.int .i64 ts.length,.int .i64 g.2]) (fun g=>[⟨none,false,lkY g.1 1 1027⟩,⟨some 79,false,.agg g.1.es⟩,⟨some 52,false,.agg g.1.o.ys⟩]) (fun g=>ts.length-g.2.toNat)
   (fun g=>0≤g.2∧g.2≤ts.length∧NoIds g.1.es∧KLs g.1.o.ys∧{ g.1 with rt:=if g.1.rt=true then tagsOk y (ts.drop g.2.toNat) else false }={ l with rt:=if l.rt=true then tagsOk y ts else false }) K (zK (by kernel_rfl)) ?_ (l,0) ⟨Int.le_refl _,by show (0:Int)≤_;omega,he,hy,rfl⟩
  rintro ⟨l1,i⟩ ⟨h0,h1,he1,hy1,h9004⟩
  simp only at h0 h1 he1 hy1 h9004
  refine (nl54_0 l1 y ts _ i _ _ _).mpr ?_
  intro x e;subst e
  refine ⟨fun h9005=>?_,fun h9005=>?_⟩
  ·simp only [decide_eq_true_eq] at h9005
   obtain ⟨m,hm⟩:=hn _ (getV_memL h0 h9005)
   rw [drop_dec h0 h9005] at h9004
   refine ⟨h0,h9005,m,hm,fun x4 e4=>⟨l1,rfl,rfl,rfl,fun l2 e2 z hz=>?_⟩⟩
   rw [wrap_1 h0 (by omega)] at hz
   subst hz e4 e2
   refine ⟨he1,kls_ids hy1,(_,i+1),rfl,rfl,by show ts.length-(i+1).toNat<ts.length-i.toNat;omega,by show 0≤i+1;omega,by show i+1≤_;omega,he1,hy1, ?_⟩
   rw [←h9004,hm]
   show ({ l1 with rt:=if (if l1.rt=true then decide (y<m) else false)=true then tagsOk y (ts.drop (i+1).toNat) else false }:LK)=_
   cases l1.rt<;>simp only [tagsOk,numT,if_true,if_false,Bool.false_eq_true]<;>rfl
  ·simp only [decide_eq_false_iff_not] at h9005
   have hd:ts.drop i.toNat=[]:=List.drop_eq_nil_of_le (by omega)
   rw [hd] at h9004
   refine ⟨he1,kls_ids hy1,hK l1 ?_⟩
   rw [←h9004]
   obtain ⟨m1,op,ag,s,o,es,g,rt⟩:=l1
   cases rt<;>simp only [tagsOk,if_true,if_false,Bool.false_eq_true]
 ·exact h.elim
theorem sp36_ok:SpOk Try.prog sp36:=zA b59_ok (zH h46_ok (zA b56g_ok (zH h57M_ok (zA b58_ok (zA b60_ok (zA b61_ok (zA b62_ok (zD))))))))
set_option maxHeartbeats 4000000 in
theorem c36 (l:LK) (hp:LOk l∧(∀u∈l.ag,T28 u)∧l.es.length≤4000):LC 36 [] l (.tup []) (throwsG l):=by
 refine callQ_go (own:=none) (pur:=[]) (n1:=1000) (η:=[(0,⟨none,false,lkV l 1⟩),(1,⟨some 79,false,.agg l.es⟩)]) (η1:=[(0,⟨none,false,lkV l 1⟩),(1,⟨some 79,false,.agg l.es⟩)]) (ids:=[0,1]) (ks:=[⟨none,false,lkV (throwsG l) 1⟩,⟨some 79,false,.agg (throwsG l).es⟩]) (hint:=none) (Ls:=noLs) (hints:=zB) (prs:=zO []) (N:=100) sp36_ok Try.func36 Try.ntmps36 (by kernel_rfl) (zK (by kernel_rfl)) rfl ((n36 l _ _).mpr ?_)
 obtain ⟨hl,ht,he⟩:=hp
 (repeat' (first|assumption|(exact nls1)|(exact Nat.le_trans he (by decide))|(refine nls_get hl.2.1.2.2.1 (by assumption) (fun _ _=>?_))|(refine kls_get hl.2.1.1 (by assumption) hl.2.1.2.1 (fun _ _ _=>?_))|(refine lok_ids ?_;(repeat (first|assumption|apply yB|apply lok_src|apply zZ|apply zY|apply yF|apply yE|apply lok_dst|apply yC));done)|(intro x e;subst e)|(intro h;try simp only [Bool.not_eq_true',Bool.not_eq_false'] at h)|(refine ⟨_,rfl,rfl, ?_⟩)|(refine ⟨_,rfl, ?_⟩)|(refine sok_s ?_;(repeat (first|assumption|apply yB|apply lok_src|apply zZ|apply zY|apply yF|apply yE|apply lok_dst|apply yC));done)|(refine sok_o ?_;(repeat (first|assumption|apply yB|apply lok_src|apply zZ|apply zY|apply yF|apply yE|apply lok_dst|apply yC));done)|((repeat (first|assumption|apply yB|apply lok_src|apply zZ|apply zY|apply yF|apply yE|apply lok_dst|apply yC));done)|(refine ⟨setF (setF (setF (cutF l.s.f 0) 0 (2,-1)) 1 (127,-1)) 2 (4,-1),by kernel_rfl, ?_⟩)|(refine And.intro ?_ ?_)))
 all_goals (first|rfl|decide|(rw [ho];decide)|assumption|(simp;done)|(exact Nat.le_trans (by assumption) (by decide))|(exact ag_lt hlen (by decide))|(exact ag_ltn hlen (by decide))|(refine fin_lk ?_;simp only [throwsG,edge1,numT,saidV, *,if_true,if_false,Bool.false_eq_true,Bool.not_true,Bool.not_false];done)|(refine fin_lk ?_;simp only [throwsG,edge1,numT,saidV, *,if_true,if_false,Bool.false_eq_true,Bool.not_true,Bool.not_false];rfl)|(simp only [throwsG,edge1,numT,saidV, *,if_true,if_false,Bool.false_eq_true,Bool.not_true,Bool.not_false];rfl)|(simp only [decide_eq_true_eq] at*;omega)|(exfalso;simp_all [zW];done)|(refine fin_lk ?_;simp_all only [throwsG,edge1,numT,saidV,mustL_s,if_true,if_false,Bool.false_eq_true,Bool.not_true,Bool.not_false];done)|skip)
def triC (l:LK):Bool:=if l.s.fr=true then decide (nA l 0<(l.s.ys.length:Int)) else false
def triL (l:LK) (b:Bool):LK:={ zW l b with o:={ l.o with ys:=l.s.ys } }
def triT (l:LK):Bool:=if decide ((l.s.ts.length:Int)>0)=true then (numT (getV l.s.ts 0)==nA l 0) else false
theorem tries_no {l:LK} (h:(zW l (triC l)).rt=false):zX l=zW l (triC l):=by
 unfold zX
 exact if_neg (by rw [show (zW l (if l.s.fr=true then decide (nA l 0<(l.s.ys.length:Int)) else false)).rt=false from h];decide)
theorem tries_45 {l:LK} (h:(zW l (triC l)).rt=true) (ho:(l.op==45)=true):zX l={ zW l (triC l) with rt:=(if (zW l (triC l)).rt=true then tagsOk (nA l 0) l.s.ts else false),o:=⟨l.o.f,l.o.fr,l.s.ys.set (nA l 0).toNat (.agg [.int .i64 256,.int .i64 (nA l 1)]),l.o.rm,.int .i64 (nA l 0)::l.s.ts⟩ }:=by
 unfold zX
 refine (if_pos h).trans ?_
 exact if_pos ho
theorem tries_46no {l:LK} (h:(zW l (triC l)).rt=true) (ho:(l.op==45)=false) (h2:(zW (triL l (triC l)) (triT l)).rt=false):zX l=zW (triL l (triC l)) (triT l):=by
 unfold zX
 refine (if_pos h).trans ((if_neg (by rw [ho];decide)).trans ?_)
 refine (if_neg ?_)
 intro h9003
 have h9004:(zW (triL l (triC l)) (triT l)).rt=true:=h9003
 rw [h2] at h9004;cases h9004
def tri3 (l:LK):LK:={ zW (triL l (triC l)) (triT l) with o:={ l.o with ys:=l.s.ys.set (nA l 0).toNat (.agg [.int .i64 4,.int .i64 (-1)]),ts:=l.s.ts.drop 1 } }
theorem tries_46 {l:LK} (h:(zW l (triC l)).rt=true) (ho:(l.op==45)=false) (h2:(zW (triL l (triC l)) (triT l)).rt=true) (h9003:(l.op==47)=false):zX l=tri3 l:=by
 unfold zX
 refine (if_pos h).trans ((if_neg (by rw [ho];decide)).trans ?_)
 refine (if_pos ?_).trans (if_neg (by rw [h9003];decide))
 exact h2
def triB (l:LK):Bool:=if ((meet (l.s.f 0).1 (l.s.f 0).2 (-1)).1==2)=true then (if plain (l.s.f 1).1 (l.s.f 1).2=true then plain (l.s.f 2).1 (l.s.f 2).2 else false) else false
theorem tries_47 {l:LK} (h:(zW l (triC l)).rt=true) (ho:(l.op==45)=false) (h2:(zW (triL l (triC l)) (triT l)).rt=true) (h9003:(l.op==47)=true):zX l={ zW (tri3 l) (triB l) with o:={ (tri3 l).o with f:=cutF l.o.f 3,rm:=0 } }:=by
 unfold zX
 refine (if_pos h).trans ((if_neg (by rw [ho];decide)).trans ?_)
 refine (if_pos ?_).trans (if_pos ?_)
 ·exact h2
 ·exact h9003
theorem set_sz {ys:List V} (h:KLs ys) {n:Nat} (hn:n<ys.length) (m a:Int):∃u,subQ (V.agg ys) [n]=some u∧V.sz (V.agg [V.int IntKind.i64 m,V.int IntKind.i64 a])=V.sz u∧V.sz (V.agg [V.int IntKind.i64 m,V.int IntKind.i64 a])=V.sz u:=
 ⟨_,sub_one hn,(kls_sz h _ (List.getElem_mem hn)).symm,(kls_sz h _ (List.getElem_mem hn)).symm⟩
theorem kls_set {ys:List V} (h:KLs ys) (n:Nat) (m a:Int):KLs (ys.set n (.agg [.int .i64 m,.int .i64 a])):=fun v hv=>by
 rcases List.mem_or_eq_of_mem_set hv with hv|rfl
 ·exact h v hv
 ·exact ⟨_,_,rfl⟩
set_option maxHeartbeats 4000000 in
theorem c54 (l:LK) (hp:GOk l∧(l.op=45∨l.op=46∨l.op=47)):LC 54 [] l (.tup []) (zX l):=by
 refine callQ_go (own:=none) (pur:=[(0,[3])]) (n1:=1000) (η:=[(0,⟨none,false,lkV l 1⟩),(1,⟨some 79,false,.agg l.es⟩)]) (η1:=[(0,⟨none,false,lkV l 1⟩),(1,⟨some 79,false,.agg l.es⟩)]) (ids:=[0,1]) (ks:=[⟨none,false,lkV (zX l) 1⟩,⟨some 79,false,.agg (zX l).es⟩]) (hint:=none) (Ls:=ls54) (hints:=(hintOf [(9010,52),(12008,52)])) (prs:=zN Try.f54) (N:=166) sp54_ok Try.func54 Try.ntmps54 (by kernel_rfl) (zR fun p hp=>by
  have e:loopsOf 0 (zC Try.f54)=[zP Try.f54 0]:=by kernel_rfl
  rw [e] at hp
  simp only [List.mem_cons,List.not_mem_nil,or_false] at hp
  subst hp
  exact zU lp54) rfl ((n54 l _ _).mpr ?_)
 obtain ⟨⟨hl,hA,he⟩,hop⟩:=hp
 have h0:∃k,l.ag.length=k+1∧(l.op=45→k=1)∧(∃(t n:Int) (ls:List V),getV l.ag 0=.agg [.int .i64 t,.int .i64 n,.list false ls]∧letP 121 t n)∧(l.op=45→∃(t n:Int) (ls:List V),getV l.ag 1=.agg [.int .i64 t,.int .i64 n,.list false ls]):=by
  rcases hop with ho|ho|ho<;>rw [ho] at hA
  ·obtain ⟨hlen,⟨t0,n0,ls0,g0,a0,b0,p0⟩,⟨t1,n1,ls1,g1,a1,b1,p1⟩⟩:=args2 (xs:=l.ag) hA
   exact ⟨1,hlen,fun _=>rfl,⟨t0,n0,ls0,g0,p0⟩,fun _=>⟨t1,n1,ls1,g1⟩⟩
  ·obtain ⟨hlen,⟨t0,n0,ls0,g0,a0,b0,p0⟩⟩:=args1 (xs:=l.ag) hA
   exact ⟨0,hlen,(fun h=>by rw [ho] at h;cases h),⟨t0,n0,ls0,g0,p0⟩,(fun h=>by rw [ho] at h;cases h)⟩
  ·obtain ⟨hlen,⟨t0,n0,ls0,g0,a0,b0,p0⟩⟩:=args1 (xs:=l.ag) hA
   exact ⟨0,hlen,(fun h=>by rw [ho] at h;cases h),⟨t0,n0,ls0,g0,p0⟩,(fun h=>by rw [ho] at h;cases h)⟩
 obtain ⟨k,hlen,hk,⟨t0,n0,ls0,g0,p0⟩,hA1⟩:=h0
 have hn0:nA l 0=n0:=by unfold nA;rw [g0];rfl
 have hz:=y_nn p0
 have hi0:(0:Int)<(l.ag.length:Int):=by omega
 refine ⟨l,rfl,rfl,by decide,hi0,t0,n0,ls0,g0,fun hfr=>?_,fun hfr=>?_⟩
 rotate_left
 ·have hC:triC l=false:=by simp [triC,hfr]
  refine ⟨l,rfl,rfl,fun l1 e1 x e=>⟨fun h=>?_,fun h=>?_⟩⟩
  ·subst e e1
   have hr:(zW l (triC l)).rt=false:=by rw [hC];simpa using h
   rw [tries_no hr,hC]
   exact ⟨rfl,rfl⟩
  ·subst e e1
   have hr:(zW l false).rt=true:=by simpa using h
   have:=must_c hr
   cases this
 have hC:triC l=decide (n0<(l.s.ys.length:Int)):=by simp [triC,hfr,hn0]
 intro _ x6 e6 x8 e8
 subst e6 e8
 refine ⟨l,rfl,rfl,fun l1 e1 x13 e13=>⟨fun h=>?_,fun h=>?_⟩⟩
 ·subst e13 e1
  have hr:(zW l (triC l)).rt=false:=by rw [hC];simpa using h
  rw [tries_no hr,hC]
  exact ⟨rfl,rfl⟩
 subst e13 e1
 have hr:(zW l (decide (n0<(l.s.ys.length:Int)))).rt=true:=by simpa using h
 have hr':(zW l (triC l)).rt=true:=by rw [hC];exact hr
 have hlt:n0<l.s.ys.length:=by simpa using must_c hr
 have hlt':n0.toNat<l.s.ys.length:=by omega
 have hK:KLs l.s.ys:=hl.2.1.1
 have hb:l.s.ys.length≤1000:=hl.2.1.2.1
 have hT:NLs l.s.ts:=hl.2.1.2.2.1
 have hbt:l.s.ts.length≤1000:=hl.2.1.2.2.2
 refine ⟨hK,hb,(fun h=>by rw [show l.s.ys=[] from h] at hlt';simp at hlt'),fun zs ez x19 e19=>⟨fun h58=>?_,fun h58=>?_⟩⟩
 ·subst ez e19
  have h45':(l.op==45)=true:=h58
  have ho:l.op=45:=by simpa using h45'
  obtain ⟨t1,n1,ls1,g1⟩:=hA1 ho
  have hk1:=hk ho
  subst hk1
  have hn1:nA l 1=n1:=by unfold nA;rw [g1];rfl
  intro _ x23 e23
  refine ⟨hl.2.2.2,kls_ids hK,rfl,e23,hT,hbt,⟨l.m,l.op,l.ag,l.s,⟨l.o.f,l.o.fr,l.s.ys,l.o.rm,l.o.ts⟩,l.es,l.g,(zW l (decide (n0<(l.s.ys.length:Int)))).rt⟩,rfl,rfl,rfl,hl.2.2.2,hK,fun l2 e2=>?_⟩
  subst e2
  refine ⟨_,rfl,rfl,rfl,by decide,ag_lt (k:=2) hlen (by decide),t1,n1,ls1,g1,rfl,hz,hlt,rfl,rfl,by simp,off_one hK hlt',set_sz hK hlt' _ _,l.s.ys.set n0.toNat (.agg [.int .i64 256,.int .i64 n1]),(upd_one hlt').symm,⟨rfl,rfl,⟨rfl,trivial⟩,nls_sz hT,rfl,rfl,8,rfl, ?_, ?_⟩,fun _=>⟨by simp,by simp;omega,rfl, ?_⟩⟩
  ·show (1+l.s.ts.length)*8≤_;omega
  ·show 1+l.s.ts.length≤_;omega
  ·rw [tries_45 hr' h45',hn0,hn1,hC]
   rfl
 subst ez e19
 have h45':(l.op==45)=false:=h58
 intro _ x46 e46 x48 e48
 subst e46 e48
 refine ⟨fun hp0=>?_,fun hp0=>?_⟩
 rotate_left
 ·have hTT:triT l=false:=by unfold triT;rw [if_neg];intro h;rw [show decide ((l.s.ts.length:Int)>0)=false from hp0] at h;cases h
  refine ⟨⟨l.m,l.op,l.ag,l.s,⟨l.o.f,l.o.fr,l.s.ys,l.o.rm,l.o.ts⟩,l.es,l.g,(zW l (decide (n0<(l.s.ys.length:Int)))).rt⟩,rfl,rfl,rfl,fun l2 e2 x57 e57=>⟨fun h=>?_,fun h=>?_⟩⟩
  ·subst e57 e2
   have hr2:(zW (triL l (triC l)) (triT l)).rt=false:=by
    rw [hTT,hC];simp only [Bool.not_eq_true'] at h;exact h
   rw [tries_46no hr' h45' hr2,hTT,hC]
   exact ⟨rfl,rfl,rfl⟩
  ·subst e57 e2
   exfalso
   have h2:=must_c (by simpa using h)
   cases h2
 have hpos:((l.s.ts.length:Int)==0)=false:=by
  have:(l.s.ts.length:Int)>0:=of_decide_eq_true (p:=(l.s.ts.length:Int)>0) hp0
  simp;intro h;rw [h] at this;simp at this
 refine nls_get hT hpos fun m hm=>?_
 intro x52 e52
 subst e52
 have hTT:triT l=(m==n0):=by unfold triT;rw [if_pos (show decide ((l.s.ts.length:Int)>0)=true from hp0),hm,hn0];rfl
 refine ⟨⟨l.m,l.op,l.ag,l.s,⟨l.o.f,l.o.fr,l.s.ys,l.o.rm,l.o.ts⟩,l.es,l.g,(zW l (decide (n0<(l.s.ys.length:Int)))).rt⟩,rfl,rfl,rfl,fun l2 e2 x57 e57=>⟨fun h=>?_,fun h=>?_⟩⟩
 ·subst e57 e2
  have hr2:(zW (triL l (triC l)) (triT l)).rt=false:=by
   rw [hTT,hC];simp only [Bool.not_eq_true'] at h;exact h
  rw [tries_46no hr' h45' hr2,hTT,hC]
  exact ⟨rfl,rfl,rfl⟩
 have hl2:l2.s=l.s:=by rw [e2];rfl
 subst e57
 have hr2:(zW (triL l (triC l)) (triT l)).rt=true:=by
  rw [hTT,hC]
  have:l2.rt=true:=by simpa using h
  rw [e2] at this
  exact this
 have hts:0<l.s.ts.length:=by
  have:(l.s.ts.length:Int)>0:=of_decide_eq_true (p:=(l.s.ts.length:Int)>0) hp0
  omega
 have htd:∀(a:Nat),List.take (Int.toNat (Int.ofNat l.s.ts.length-Int.ofNat 1)) (List.drop (Int.toNat (Int.ofNat 1)) l.s.ts)=l.s.ts.drop 1:=fun _=>by
  have:=td (xs:=l.s.ts) (n:=1) (by decide)
  exact this
 subst e2
 refine ⟨rfl,hz,hlt,rfl,rfl,by simp,off_one hK hlt',set_sz hK hlt' _ _,l.s.ys.set n0.toNat (.agg [.int .i64 4,.int .i64 (-1)]),(upd_one hlt').symm,⟨trivial,rfl,trivial,trivial,trivial,fun h=>absurd rfl h,by decide, ?_, ?_,rfl,nls_sz hT⟩,fun _ x67 e67=>?_⟩
 ·show Int.ofNat 1≤Int.ofNat l.s.ts.length
  exact Int.ofNat_le.mpr hts
 ·exact Int.le_refl _
 have e67':x67=l.s.ts.drop 1:=e67.trans (htd 0)
 clear e67
 subst e67'
 have hTd:NLs (l.s.ts.drop 1):=fun v hv=>hT v (List.mem_of_mem_drop hv)
 have hbd:(l.s.ts.drop 1).length≤1000:=by simp;omega
 refine ⟨hTd,hbd,fun zs ez x71 e71=>⟨fun h61=>?_,fun h61=>?_⟩⟩
 rotate_left
 ·subst ez e71
  refine ⟨by show l.s.ys.length=(l.s.ys.set _ _).length;simp,rfl, ?_⟩
  rw [tries_46 hr' h45' hr2 h61]
  unfold tri3
  rw [hTT,hC,hn0]
  rfl
 subst ez e71
 have hS3:SOk (arrF 16 l.o.f) (l.s.ys.set n0.toNat (.agg [.int .i64 4,.int .i64 (-1)])) (l.s.ts.drop 1):=⟨⟨_,rfl⟩,kls_set hK _ _ _,by simp;exact hb,hTd,hbd⟩
 have key:∀b:Bool,b=triB l→∀(l4:LK),l4=zW (tri3 l) b→[(⟨none,false,lkV (zX l) 1⟩:Blk),⟨some 79,false,.agg (zX l).es⟩]=[⟨none,false,lkV { l4 with o:={ l4.o with f:=cutF l.o.f 3,rm:=0 } } 1⟩,⟨some 79,false,.agg l4.es⟩]:=by
  intro b hb4 l4 e4
  rw [tries_47 hr' h45' hr2 h61,←hb4,←e4]
  have:(tri3 l).o=l4.o:=by rw [e4];rfl
  rw [this]
 have h9003:∀b:Bool,zW (tri3 l) b=zW ⟨l.m,l.op,l.ag,l.s,⟨l.o.f,l.o.fr,l.s.ys.set n0.toNat (.agg [.int .i64 4,.int .i64 (-1)]),l.o.rm,l.s.ts.drop 1⟩,l.es,l.g,(zW (triL l (triC l)) (triT l)).rt⟩ b:=by
  intro b
  unfold tri3
  rw [hn0]
  rfl
 have hrr:(zW ⟨l.m,l.op,l.ag,l.s,⟨l.o.f,l.o.fr,l.s.ys,l.o.rm,l.o.ts⟩,l.es,l.g,(zW l (decide (n0<(l.s.ys.length:Int)))).rt⟩ (m==n0)).rt=(zW (triL l (triC l)) (triT l)).rt:=by rw [hTT,hC];rfl
 refine ⟨by decide,by decide,fun x74 e74=>⟨fun h1=>⟨by decide,by decide,fun h2=>⟨by decide,by decide,⟨l.m,l.op,l.ag,l.s,⟨l.o.f,l.o.fr,l.s.ys.set n0.toNat (.agg [.int .i64 4,.int .i64 (-1)]),l.o.rm,l.s.ts.drop 1⟩,l.es,l.g,(zW ⟨l.m,l.op,l.ag,l.s,⟨l.o.f,l.o.fr,l.s.ys,l.o.rm,l.o.ts⟩,l.es,l.g,(zW l (decide (n0<(l.s.ys.length:Int)))).rt⟩ (m==n0)).rt⟩, ?_,rfl,rfl,fun l4 e4=>?_⟩,fun h2=>⟨⟨l.m,l.op,l.ag,l.s,⟨l.o.f,l.o.fr,l.s.ys.set n0.toNat (.agg [.int .i64 4,.int .i64 (-1)]),l.o.rm,l.s.ts.drop 1⟩,l.es,l.g,(zW ⟨l.m,l.op,l.ag,l.s,⟨l.o.f,l.o.fr,l.s.ys,l.o.rm,l.o.ts⟩,l.es,l.g,(zW l (decide (n0<(l.s.ys.length:Int)))).rt⟩ (m==n0)).rt⟩, ?_,rfl,rfl,fun l4 e4=>?_⟩⟩,fun h1=>⟨⟨l.m,l.op,l.ag,l.s,⟨l.o.f,l.o.fr,l.s.ys.set n0.toNat (.agg [.int .i64 4,.int .i64 (-1)]),l.o.rm,l.s.ts.drop 1⟩,l.es,l.g,(zW ⟨l.m,l.op,l.ag,l.s,⟨l.o.f,l.o.fr,l.s.ys,l.o.rm,l.o.ts⟩,l.es,l.g,(zW l (decide (n0<(l.s.ys.length:Int)))).rt⟩ (m==n0)).rt⟩, ?_,rfl,rfl,fun l4 e4=>?_⟩⟩⟩
 ·unfold lkY;simp only [List.length_set];rfl
 ·refine ⟨rfl,_,rfl,by rw [e4];exact hS3,fun g eg=>⟨rfl, ?_⟩⟩
  subst eg
  have hb4:plain (l.s.f 2).1 (l.s.f 2).2=triB l:=by unfold triB;rw [if_pos (show ((meet (l.s.f 0).1 (l.s.f 0).2 (-1)).1==2)=true from e74.symm.trans h1),if_pos (show plain (l.s.f 1).1 (l.s.f 1).2=true from h2)]
  have e5:l4=zW (tri3 l) (plain (l.s.f 2).1 (l.s.f 2).2):=by rw [h9003,←hrr];exact e4
  refine (key _ hb4 l4 e5).trans ?_
  rw [e4];rfl
 ·unfold lkY;simp only [List.length_set];rfl
 ·refine ⟨rfl,_,rfl,by rw [e4];exact hS3,fun g eg=>⟨rfl, ?_⟩⟩
  subst eg
  have hb4:false=triB l:=by unfold triB;rw [if_pos (show ((meet (l.s.f 0).1 (l.s.f 0).2 (-1)).1==2)=true from e74.symm.trans h1),if_neg (by rw [show plain (l.s.f 1).1 (l.s.f 1).2=false from h2];decide)]
  have e5:l4=zW (tri3 l) false:=by rw [h9003,←hrr];exact e4
  refine (key _ hb4 l4 e5).trans ?_
  rw [e4];rfl
 ·unfold lkY;simp only [List.length_set];rfl
 ·refine ⟨rfl,_,rfl,by rw [e4];exact hS3,fun g eg=>⟨rfl, ?_⟩⟩
  subst eg
  have hb4:false=triB l:=by unfold triB;rw [if_neg (by rw [show ((meet (l.s.f 0).1 (l.s.f 0).2 (-1)).1==2)=false from e74.symm.trans h1];decide)]
  have e5:l4=zW (tri3 l) false:=by rw [h9003,←hrr];exact e4
  refine (key _ hb4 l4 e5).trans ?_
  rw [e4];rfl
theorem h49_ok:HOk Try.prog 49 (hbL s49):=hbL_ok fun rest l k h=>by
 unfold s49 at h
 split at h
 ·exact ⟨_,_,c49 _ h.1,rfl,h.2 _ rfl⟩
 ·exact h.elim
theorem h50_ok:HOk Try.prog 50 (hbL s50):=hbL_ok fun rest l k h=>by
 unfold s50 at h
 split at h
 ·exact ⟨_,_,c50 _ h.1,rfl,h.2 _ rfl⟩
 ·exact h.elim
theorem h51_ok:HOk Try.prog 51 (hbL s51):=hbL_ok fun rest l k h=>by
 unfold s51 at h
 split at h
 ·exact ⟨_,_,c51 _ h.1,rfl,h.2 _ rfl⟩
 ·exact h.elim
theorem h52_ok:HOk Try.prog 52 (hbL s52):=hbL_ok fun rest l k h=>by
 unfold s52 at h
 split at h
 ·exact ⟨_,_,c52 _ h.1,rfl,h.2 _ rfl⟩
 ·exact h.elim
theorem h53_ok:HOk Try.prog 53 (hbL s53):=hbL_ok fun rest l k h=>by
 unfold s53 at h
 split at h
 ·exact ⟨_,_,c53 _ h.1,rfl,h.2 _ rfl⟩
 ·exact h.elim
theorem h54_ok:HOk Try.prog 54 (hbL s54):=hbL_ok fun rest l k h=>by
 unfold s54 at h
 split at h
 ·exact ⟨_,_,c54 _ h.1,rfl,h.2 _ rfl⟩
 ·exact h.elim
theorem h55_ok:HOk Try.prog 55 (hbL s55):=hbL_ok fun rest l k h=>by
 unfold s55 at h
 split at h
 ·exact ⟨_,_,c55 _ h.1,rfl,h.2 _ rfl⟩
 ·exact h.elim
theorem h36_ok:HOk Try.prog 36 (hbL s36):=hbL_ok fun rest l k h=>by
 unfold s36 at h
 split at h
 ·exact ⟨_,_,c36 _ h.1,rfl,h.2 _ rfl⟩
 ·exact h.elim
end GoL
