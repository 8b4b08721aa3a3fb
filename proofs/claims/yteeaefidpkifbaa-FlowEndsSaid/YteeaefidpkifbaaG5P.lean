/- A part of the proof: a logic proved sound over the model; contracts; plain laws. -/
import Derived.Test.YteeaefidpkifbaaG5N
import Derived.Test.YteeaefidpkifbaaG4P
set_option linter.all false
open Go Go.Proofs
namespace GoL
set_option maxRecDepth 8000
attribute [local irreducible] wC
theorem sp35_ok:SpOk Try.prog sp35:=zH h46_ok (zH h47N_ok (zH h48_ok (zH h49_ok (zH h50_ok (zH h51_ok (zH h52_ok (zH h53_ok (zH h54_ok (zH h55_ok (zD))))))))))
theorem plainB_of {t n:Int} {ls:List V} (h:plainB t n ls=true):ls.length=0∧(t=1∨0≤n):=by
 unfold plainB at h
 split at h
 ·rename_i h1
  split at h
  ·rename_i h2
   have h1:t=1:=by simpa using h1
   have h2:(ls.length:Int)=0:=by simpa using h2
   exact ⟨by omega,.inl h1⟩
  ·cases h
 ·split at h
  ·split at h
   ·split at h
    ·rename_i h2
     have h2:(ls.length:Int)=0:=by simpa using h2
     split at h
     ·rename_i h9003
      exact ⟨by omega,.inr (by simpa using h9003)⟩
     ·cases h
    ·cases h
   ·cases h
  ·cases h
theorem letO_let {c:UInt8} {t n:Int} {ls:List V} (h:letO (c.toNat:Int) t n ls=true):ls.length≤1000∧letP c t n:=by
 have hc:∀k:Nat,k<256→((c.toNat:Int)==(k:Int))=true→c=UInt8.ofNat k:=fun k hk e=>by
  have e:(c.toNat:Int)=k:=by simpa using e
  have e2:c.toNat=k:=by omega
  rw [←e2];simp
 have big:∀c':Int,bigO c' t n ls=true→ls.length≤1000∧n=0:=fun c' h=>by
  unfold bigO at h
  split at h
  ·cases h
  ·split at h
   ·cases h
   ·rename_i h2
    split at h
    ·cases h
    ·rename_i h9003
     have h2:n=0:=by simpa using h2
     have h9003:¬((ls.length:Int)>40):=by simpa using h9003
     exact ⟨by omega,h2⟩
 unfold letO at h
 split at h
 ·rename_i h1
  have e:=hc 83 (by decide) h1
  obtain ⟨h2,h9003⟩:=big _ h
  subst e
  exact ⟨h2,.inr (by omega),(fun e=>by cases e),fun e=>by cases e⟩
 ·split at h
  ·rename_i h1
   have e:=hc 80 (by decide) h1
   obtain ⟨h2,h9003⟩:=big _ h
   subst e
   exact ⟨h2,.inr (by omega),(fun e=>by cases e),fun e=>by cases e⟩
  ·unfold fit1 at h
   split at h
   ·cases h
   ·rename_i hp
    have hp:plainB t n ls=true:=by simpa using hp
    obtain ⟨h1,h2⟩:=plainB_of hp
    refine ⟨by omega,h2,fun e=>?_,fun e=>?_⟩
    ·subst e
     have:(((117:UInt8).toNat:Int)==117)=true:=by decide
     rw [if_pos this] at h
     simpa using h
    ·subst e
     rw [if_neg (by decide),if_neg (by decide),if_neg (by decide),if_neg (by decide),if_neg (by decide),if_pos (by decide)] at h
     split at h
     ·rename_i h9003;simpa using h9003
     ·cases h
theorem argS_of:∀(sg:List UInt8) (xs:List V),xs.length=sg.length→(∀u∈xs,T28 u)→(∀j:Nat,j<xs.length→letO ((sg.getD j 0).toNat:Int) (tagV (xs.getD j .junk)) (numV (xs.getD j .junk)) (kidsV (xs.getD j .junk))=true)→ArgS sg xs
 |[],[],_,_,_=>trivial
 |[],_::_,h,_,_=>by simp at h
 |_::_,[],h,_,_=>by simp at h
 |c::sg,v::xs,h,ht,hl=>by
  obtain ⟨t,n,ls,rfl,hls⟩:=ty28 (ht v (by simp))
  have h0:=hl 0 (by simp)
  have h0:letO (c.toNat:Int) t n ls=true:=h0
  obtain ⟨h1,h2⟩:=letO_let h0
  refine ⟨⟨t,n,ls,rfl,fun u hu=>?_,h1,h2⟩,argS_of sg xs (by simpa using h) (fun u hu=>ht u (List.mem_cons_of_mem _ hu)) fun j hj=>?_⟩
  ·obtain ⟨a,b,c,e,_⟩:=ty28 (hls u hu)
   exact ⟨a,b,c,e⟩
  ·have:=hl (j+1) (by simpa using hj)
   exact this
theorem fits_args {op:Int} {xs:List V} (h:fitsG op xs=true) (ht:∀u∈xs,T28 u):ArgS (sigS op) xs∧1≤op∧op≤51:=by
 have hl:=fitsG_len h
 unfold fitsG at h
 split at h
 ·cases h
 ·rename_i h1
  split at h
  ·cases h
  ·rename_i h2
   split at h
   ·cases h
   ·have h1:¬op<1:=by simpa using h1
    have h2:¬op>51:=by simpa using h2
    refine ⟨argS_of _ _ hl ht fun j hj=>?_,by omega,by omega⟩
    have:=dec_iff.1 h j (by omega)
    have e:(0+(j:Int)*1)=j:=by omega
    rw [e] at this
    unfold okG at this
    have e2:((j:Int)).toNat=j:=by omega
    unfold getV at this
    rw [e2] at this
    exact this
theorem argS_L:∀{sg:List UInt8} {xs:List V},ArgS sg xs→ArgL xs∧xs.length=sg.length
 |[],[],_=>⟨fun v hv=>(by cases hv),rfl⟩
 |[],_::_,h=>h.elim
 |_::_,[],h=>h.elim
 |c::sg,v::xs,h=>by
  obtain ⟨⟨t,n,ls,rfl,_⟩,h⟩:=h
  obtain ⟨h1,h2⟩:=argS_L h
  refine ⟨fun u hu=>?_,by simp [h2]⟩
  rcases List.mem_cons.1 hu with rfl|hu
  ·exact ⟨t,n,ls,rfl⟩
  ·exact h1 u hu
theorem len_if {c:Bool} {a b:List UInt8} (ha:a.length≤1000) (hb:b.length≤1000):(if c=true then a else b).length≤1000:=by
 cases c
 ·exact hb
 ·exact ha
theorem sig_len (op:Int):(sigS op).length≤1000:=by
 unfold sigS
 repeat (refine len_if (by decide) ?_)
 decide
def KP (l l':LK) (n:Nat):Prop:=LOk l'∧(l'.ag=l.ag∧l'.s=l.s∧l'.op=l.op∧l'.m=l.m)∧l'.es.length≤l.es.length+n
theorem kp_rfl {l:LK} (h:LOk l) (n:Nat):KP l l n:=⟨h,⟨rfl,rfl,rfl,rfl⟩,by omega⟩
theorem kp_must {l l':LK} {n:Nat} (h:KP l l' n) (b:Bool):KP l (zW l' b) n:=h
theorem kp_src {l l':LK} {n:Nat} (h:KP l l' n) (b:List V):KP l (srcL l' b) n:=h
theorem kp_plain {l l':LK} {n:Nat} (h:KP l l' n) (b:Int):KP l (plainL l' b) n:=h
theorem kp_called {l l':LK} {n:Nat} (h:KP l l' n):KP l (calledL l') n:=h
theorem kp_live {l l':LK} {n:Nat} (h:KP l l' n) (b:Int):KP l (liveL l' b) n:=h
theorem kp_take {l l':LK} {n:Nat} (h:KP l l' n) (b:Int):KP l (takeL l' b) n:=h
theorem kp_dst {l l':LK} {n:Nat} (h:KP l l' n) (v:V) (q:Int×Int):KP l (dstA l' v q) n:=by
 unfold dstA
 split
 ·exact ⟨lok_dst h.1 _ _ _ _,h.2⟩
 ·exact h
theorem kp_edge {l l':LK} {n:Nat} (h:KP l l' n) (s:FS) (k:Int):KP l (edge1 l' s k) (n+1):=by
 have h1:(edgeRows s [.int .i64 k]).length≤1:=edge_len _ _
 refine ⟨yC h.1 _ _,h.2.1, ?_⟩
 show (l'.es++edgeRows s [.int .i64 k]).length≤_
 rw [List.length_append]
 have:=h.2.2
 omega
theorem kp_g {l l':LK} {n:Nat} (h:KP l l' n) (b:Bool):KP l { l' with g:=b } n:=h
theorem kp_o {l l':LK} {n:Nat} (h:KP l l' n) {o:FS} (ho:SOkS o):KP l { l' with o:=o } n:=⟨⟨h.1.1,h.1.2.1,ho,h.1.2.2.2⟩,h.2⟩
theorem kp_if {l a b:LK} {n:Nat} {c:Bool} (ha:c=true→KP l a n) (hb:KP l b n):KP l (if c=true then a else b) n:=by
 cases c
 ·exact hb
 ·exact ha rfl
theorem kp_mono {l a:LK} {n m:Nat} (h:KP l a n) (hm:n≤m):KP l a m:=⟨h.1,h.2.1,by have:=h.2.2;omega⟩
theorem calls_keep {l:LK} (h:LOk l):KP l (callsG l) 1:=by
 unfold callsG
 repeat (first|exact kp_rfl h _|(refine kp_if (fun _=>?_) ?_)|refine kp_called ?_|refine kp_plain ?_ _|refine kp_must ?_ _)
theorem binaries_keep {l:LK} (h:LOk l):KP l (yA l) 1:=by
 unfold yA matchedA
 repeat (first|exact kp_rfl h _|(refine kp_if (fun _=>?_) ?_)|refine kp_dst ?_ _ _|refine kp_edge ?_ _ _|refine kp_live ?_ _|refine kp_src ?_ _|refine kp_must ?_ _)
theorem reckons_keep {l:LK} (h:LOk l):KP l (reckonsG l) 1:=by
 unfold reckonsG
 repeat (first|exact kp_rfl h _|(refine kp_if (fun _=>?_) ?_)|refine kp_dst ?_ _ _|refine kp_edge ?_ _ _|refine kp_live ?_ _|refine kp_src ?_ _|refine kp_must ?_ _)
theorem makes_keep {l:LK} (h:LOk l):KP l (makesG l) 1:=by
 unfold makesG
 repeat (first|exact kp_rfl h _|(refine kp_if (fun _=>?_) ?_)|refine kp_dst ?_ _ _|refine kp_take ?_ _|refine kp_live ?_ _|refine kp_src ?_ _|refine kp_must ?_ _)
theorem frames_keep {l:LK} (h:LOk l):KP l (framesG l) 1:=by
 have hs:SOkS l.s:=h.2.1
 have ho:SOkS l.o:=h.2.2.1
 unfold framesG
 refine kp_if (fun _=>?_) (kp_if (fun _=>?_) (kp_if (fun _=>?_) (kp_if (fun _=>kp_dst (kp_rfl h _) _ _) ?_)))
 ·refine kp_if (fun h2=>?_) (kp_must (kp_rfl h _) _)
  refine kp_o (kp_must (kp_rfl h _) _) ⟨?_, ?_,ho.2.2⟩
  ·intro v hv;exact ⟨_,_,(List.mem_replicate.1 hv).2⟩
  ·have h9003:nA l 0≤12:=by
    have h9004:(if l.rt=true then (if (!l.s.fr)=true then (if decide (nA l 0≤12)=true then liveB l.s.f (nA l 1) else false) else false) else false)=true:=h2
    split at h9004
    ·split at h9004
     ·split at h9004
      ·rename_i h9005;simpa using h9005
      ·cases h9004
     ·cases h9004
    ·cases h9004
   show (rep0 (nA l 0)).length≤1000
   unfold rep0;simp;omega
 ·exact kp_o (kp_must (kp_rfl h _) _) ⟨fun v hv=>(by cases hv),by simp,ho.2.2⟩
 ·refine kp_if (fun h2=>?_) (kp_must (kp_rfl h _) _)
  refine kp_o (kp_must (kp_rfl h _) _) ⟨fun v hv=>hs.1 v (List.mem_of_mem_drop hv), ?_,ho.2.2⟩
  show (l.s.ys.drop _).length≤1000
  rw [List.length_drop]
  have:=hs.2.1
  omega
 ·exact kp_o (kp_live (kp_must (kp_rfl h _) _) _) ho
theorem refZ_ok {fr:Bool} {ys:List V} {tg n m a:Int} (h:KLs ys):KLs (refZ fr ys tg n m a)∧(refZ fr ys tg n m a).length=ys.length:=by
 unfold refZ
 split
 ·exact putZ_ok h
 ·split
  ·exact putZ_ok h
  ·exact ⟨h,rfl⟩
theorem refS_ok {s:FS} (h:SOkS s) (v:V) (q:Int×Int):SOkS (refS s v q):=by
 unfold refS
 split
 ·refine ⟨?_, ?_,h.2.2⟩
  ·exact (refZ_ok h.1).1
  ·show (refZ _ _ _ _ _ _).length≤1000
   rw [(refZ_ok h.1).2];exact h.2.1
 ·exact h
theorem selRows_len (s:FS):∀xs:List V,(selRows s xs).length≤xs.length
 |[]=>by simp [selRows]
 |[a]=>by simp [selRows]
 |a::b::r=>by
  have h1:(edgeRows s [.int .i64 (nV b)]).length≤1:=edge_len _ _
  have h2:=selRows_len s r
  simp only [selRows,List.length_append,List.length_cons]
  omega
theorem selRows_ids (s:FS):∀xs:List V,NoIds (selRows s xs)
 |[]=>fun v hv=>by cases hv
 |[a]=>fun v hv=>by cases hv
 |a::b::r=>fun v hv=>by
  simp only [selRows] at hv
  rcases List.mem_append.1 hv with hv|hv
  ·exact edge_ids s _ v hv
  ·exact selRows_ids s r v hv
theorem tests_keep {l:LK} (h:LOk l) (hl:l.op=33→(lsA (getV l.ag 2)).length≤1000):KP l (testsG l) 1002:=by
 have ho:SOkS l.o:=h.2.2.1
 unfold testsG
 refine kp_if (fun e=>?_) (kp_if (fun _=>?_) (kp_if (fun _=>?_) ?_))
 ·have e:l.op=33:=by simpa using e
  have h1:KP l (edge1 (srcL l [getV l.ag 0]) l.s (nA l 1)) 1:=kp_edge (kp_src (kp_rfl h 0) _) _ _
  refine ⟨⟨h1.1.1,h1.1.2.1,h1.1.2.2.1, ?_⟩,h1.2.1, ?_⟩
  ·show NoIds ((edge1 (srcL l [getV l.ag 0]) l.s (nA l 1)).es++selRows l.s (lsA (getV l.ag 2)))
   intro v hv
   rcases List.mem_append.1 hv with hv|hv
   ·exact h1.1.2.2.2 v hv
   ·exact selRows_ids l.s _ v hv
  ·show ((edge1 (srcL l [getV l.ag 0]) l.s (nA l 1)).es++selRows l.s (lsA (getV l.ag 2))).length≤_
   rw [List.length_append]
   have:=h1.2.2
   have:=hl e
   have:=selRows_len l.s (lsA (getV l.ag 2))
   omega
 ·exact kp_edge (kp_src (kp_rfl h _) _) _ _
 ·refine kp_g (kp_o ?_ (refS_ok ho _ _)) _
  refine kp_if (fun _=>?_) (kp_must (kp_rfl h _) _)
  exact kp_edge (kp_must (kp_rfl h _) _) _ _
 ·unfold testsLo
  refine kp_if (fun _=>?_) ?_
  ·exact kp_g (kp_o (kp_edge (kp_src (kp_rfl h _) _) _ _) (refS_ok ho _ _)) _
  ·exact kp_g (kp_o (kp_src (kp_rfl h _) _) (refS_ok ho _ _)) _
theorem tries_keep {l:LK} (h:LOk l) (ht:l.s.ts.length≤900):KP l (zX l) 1:=by
 have hs:SOkS l.s:=h.2.1
 have ho:SOkS l.o:=h.2.2.1
 have hset:∀(n:Nat) (m a:Int),KLs (l.s.ys.set n (.agg [.int .i64 m,.int .i64 a]))∧(l.s.ys.set n (.agg [.int .i64 m,.int .i64 a])).length≤1000:=fun n m a=>⟨kls_set hs.1 n m a,by rw [List.length_set];exact hs.2.1⟩
 unfold zX
 refine kp_if (fun _=>?_) (kp_must (kp_rfl h _) _)
 refine kp_if (fun _=>?_) ?_
 ·refine ⟨⟨h.1,h.2.1,⟨(hset _ _ _).1,(hset _ _ _).2, ?_, ?_⟩,h.2.2.2⟩,⟨rfl,rfl,rfl,rfl⟩,Nat.le_add_right _ _⟩
  ·intro v hv
   rcases List.mem_cons.1 hv with rfl|hv
   ·exact ⟨_,rfl⟩
   ·exact hs.2.2.1 v hv
  ·show (_::l.s.ts).length≤1000
   simp;omega
 ·refine kp_if (fun _=>?_) (kp_must (kp_o (kp_must (kp_rfl h _) _) (o:=⟨l.o.f,l.o.fr,l.s.ys,l.o.rm,l.o.ts⟩) ⟨hs.1,hs.2.1,ho.2.2⟩) _)
  have h9003:SOkS ⟨l.o.f,l.o.fr,l.s.ys.set (nA l 0).toNat (.agg [.int .i64 4,.int .i64 (-1)]),l.o.rm,l.s.ts.drop 1⟩:=⟨(hset _ _ _).1,(hset _ _ _).2,fun v hv=>hs.2.2.1 v (List.mem_of_mem_drop hv),by
   show (l.s.ts.drop 1).length≤1000
   rw [List.length_drop];omega⟩
  refine kp_if (fun _=>?_) ?_
  ·refine kp_o (kp_must (kp_o ?_ h9003) _) ?_
   ·exact kp_must (kp_o (kp_must (kp_rfl h _) _) (o:=⟨l.o.f,l.o.fr,l.s.ys,l.o.rm,l.o.ts⟩) ⟨hs.1,hs.2.1,ho.2.2⟩) _
   ·exact ⟨h9003.1,h9003.2.1,h9003.2.2⟩
  ·refine kp_o ?_ h9003
   exact kp_must (kp_o (kp_must (kp_rfl h _) _) (o:=⟨l.o.f,l.o.fr,l.s.ys,l.o.rm,l.o.ts⟩) ⟨hs.1,hs.2.1,ho.2.2⟩) _
theorem does_keep {l:LK} (h:GOk l) (ht:l.s.ts.length≤900):KP l (doesG l) 1002:=by
 obtain ⟨hl,hg,he⟩:=h
 have m1:∀{a:LK},KP l a 1→KP l a 1002:=fun h=>kp_mono h (by decide)
 unfold doesG
 refine kp_if (fun _=>kp_rfl hl _) (kp_if (fun _=>m1 (kp_edge (kp_rfl hl _) _ _)) (kp_if (fun _=>kp_src (kp_rfl hl _) _) (kp_if (fun _=>m1 (calls_keep hl)) (kp_if (fun _=>m1 (frames_keep hl)) (kp_if (fun _=>tests_keep hl fun e=>?_) (kp_if (fun _=>m1 (reckons_keep hl)) (kp_if (fun _=>m1 (binaries_keep hl)) (kp_if (fun _=>m1 (tries_keep hl ht)) (kp_if (fun _=>m1 (tries_keep hl ht)) (m1 (makes_keep hl)))))))))))
 rw [e] at hg
 obtain ⟨hlen,⟨t0,n0,ls0,g0,a0,b0,p0⟩,⟨t1,n1,ls1,g1,a1,b1,p1⟩,⟨t2,n2,ls2,g2,a2,b2,p2⟩⟩:=args3 (xs:=l.ag) hg
 rw [g2]
 exact b2
theorem dg_calls {l:LK} (ho:l.op=6∨l.op=7∨l.op=8∨l.op=9∨l.op=10∨l.op=11):doesG l=callsG l:=by
 rcases ho with h|h|h|h|h|h
 all_goals (unfold doesG;rw [h];rfl)
theorem dg_frames {l:LK} (ho:l.op=12∨l.op=13∨l.op=14∨l.op=15∨l.op=16):doesG l=framesG l:=by
 rcases ho with h|h|h|h|h
 all_goals (unfold doesG;rw [h];rfl)
theorem dg_tests {l:LK} (ho:l.op=33∨l.op=29∨l.op=30∨l.op=31∨l.op=32∨l.op=28∨l.op=21∨l.op=22∨l.op=23∨l.op=24∨l.op=25∨l.op=26∨l.op=27):doesG l=testsG l:=by
 rcases ho with h|h|h|h|h|h|h|h|h|h|h|h|h
 all_goals (unfold doesG;rw [h];rfl)
theorem dg_reckons {l:LK} (ho:l.op=35∨l.op=36∨l.op=37):doesG l=reckonsG l:=by
 rcases ho with h|h|h
 all_goals (unfold doesG;rw [h];rfl)
theorem dg_binaries {l:LK} (ho:l.op=38∨l.op=39∨l.op=40∨l.op=41∨l.op=42):doesG l=yA l:=by
 rcases ho with h|h|h|h|h
 all_goals (unfold doesG;rw [h];rfl)
theorem dg_tries {l:LK} (ho:l.op=45∨l.op=46∨l.op=47):doesG l=zX l:=by
 rcases ho with h|h|h
 all_goals (unfold doesG;rw [h];rfl)
theorem dg_makes {l:LK} (ho:l.op=4∨l.op=34∨l.op=17∨l.op=18∨l.op=19∨l.op=20∨l.op=43∨l.op=44):doesG l=makesG l:=by
 rcases ho with h|h|h|h|h|h|h|h
 all_goals (unfold doesG;rw [h];rfl)
theorem dg_nop {l:LK} (ho:l.op=1∨l.op=2∨l.op=51):doesG l=l:=by
 rcases ho with h|h|h
 all_goals (unfold doesG;rw [h];rfl)
theorem dg_src {l:LK} (ho:l.op=48∨l.op=49∨l.op=50):doesG l=srcL l l.ag:=by
 rcases ho with h|h|h
 all_goals (unfold doesG;rw [h];rfl)
theorem dg_5 {l:LK} (h:l.op=5):doesG l=edge1 l l.s (nA l 0):=by
 unfold doesG;rw [h];rfl
theorem c35 (l:LK) (h:DOk l) (he:l.es=[]):CallH Try.prog 35 [.ptr 0 0 []] (lkB [(0,⟨none,false,lkN l⟩)]) (.tup []) (lkB [(0,⟨none,false,lkV (doesG l) 1000⟩),(1000,⟨some 79,false,.agg (doesG l).es⟩)]):=by
 have ho:ownS (some (0,[4],79)) [(0,⟨none,false,lkN l⟩)]=some (1001,[(0,⟨none,false,lkV l 1000⟩),(1000,⟨some 79,false,.agg l.es⟩),(0,⟨none,false,lkN l⟩)]):=by
  obtain ⟨m,op,ag,s,o,es,g,rt⟩:=l
  subst he
  rfl
 refine callQ_go (own:=some (0,[4],79)) (pur:=[]) (n1:=1001) (η:=[(0,⟨none,false,lkN l⟩)]) (η1:=[(0,⟨none,false,lkV l 1000⟩),(1000,⟨some 79,false,.agg l.es⟩),(0,⟨none,false,lkN l⟩)]) (ids:=[0,1000]) (ks:=[⟨none,false,lkV (doesG l) 1000⟩,⟨some 79,false,.agg (doesG l).es⟩]) (hint:=none) (Ls:=noLs) (hints:=zB) (prs:=zN Try.f35) sp35_ok (by kernel_rfl) (by kernel_rfl) (by decide) (zK (by kernel_rfl)) ho ((n35 l _ _).mpr ?_)
 obtain ⟨hG,o1,o51,o3,hts⟩:=h
 have hL:LOk l:=hG.1
 have hA:=argS_L hG.2.1
 have hr:∀{a b:LK},a=b→(V.tup []:V)=V.tup []∧[(⟨none,false,lkV b 1000⟩:Blk),⟨some 79,false,.agg b.es⟩]=[⟨none,false,lkV a 1000⟩,⟨some 79,false,V.agg a.es⟩]:=fun e=>by subst e;exact ⟨rfl,rfl⟩
 repeat' (refine fun x e=>?_;subst e;refine ⟨fun h=>?_,fun h=>?_⟩<;>simp only [beq_iff_eq,beq_eq_false_iff_ne,decide_eq_true_eq,decide_eq_false_iff_not] at h)
 all_goals first
  |exact hr (dg_nop (by omega)).symm
  |refine ⟨l,rfl,rfl,⟨hG,by omega⟩,fun l' e=>hr (e.trans (dg_calls (by omega)).symm)⟩
  |refine ⟨l,rfl,rfl,⟨hG,by omega⟩,fun l' e=>hr (e.trans (dg_frames (by omega)).symm)⟩
  |refine ⟨l,rfl,rfl,⟨hG,by omega⟩,fun l' e=>hr (e.trans (dg_tests (by omega)).symm)⟩
  |refine ⟨l,rfl,rfl,⟨hG,by omega⟩,fun l' e=>hr (e.trans (dg_reckons (by omega)).symm)⟩
  |refine ⟨l,rfl,rfl,⟨hG,by omega⟩,fun l' e=>hr (e.trans (dg_binaries (by omega)).symm)⟩
  |refine ⟨l,rfl,rfl,⟨hG,by omega⟩,fun l' e=>hr (e.trans (dg_tries (by omega)).symm)⟩
  |refine ⟨l,rfl,rfl,⟨hG,by omega⟩,fun l' e=>hr (e.trans (dg_makes (by omega)).symm)⟩
  |skip
 ·have h9005:l.op=5:=by omega
  have hA5:=hG.2.1
  rw [h9005] at hA5
  obtain ⟨hlen,t0,n0,ls0,g0,a0,b0,p0⟩:=args1 (xs:=l.ag) hA5
  refine ⟨l,rfl,rfl,by decide,by omega,t0,n0,ls0,g0,rfl,l,rfl,rfl,hL,nls1,by simp,by rw [he];simp,_,rfl,fun l' e=>hr ?_⟩
  rw [e,dg_5 h9005]
  have e2:nA l 0=n0:=by unfold nA;rw [g0];rfl
  rw [e2];rfl
 ·refine ⟨l,rfl,rfl,hL,hA.1,by rw [hA.2];have:=sig_len l.op;omega,fun q _ l' e=>hr ?_⟩
  rw [e,dg_src (by omega)]
theorem lkN_ren (l:LK) (c e:Nat):(lkN l).ren (ro2 c e)=lkN l:=rfl
theorem lkV_ren' (l:LK) (c e:Nat):(lkV l 1000).ren (ro2 c e)=lkV l e:=rfl
theorem hD_ok:HOk Try.prog 35 hbD:=by
 intro hvc rest H1 id k hk
 unfold hbD at hk
 split at hk
 ·rename_i c
  split at hk
  ·split at hk
   ·rename_i t hc
    split at hk
    ·rename_i hci
     obtain ⟨l,rfl,he,hD,h⟩:=hk
     have hci:c≠id:=fun e=>by subst e;simp at hci
     exact ⟨_,_,hsem_pn (m:=1000) (by decide) hci rfl hc (lkN_ren l c id) (lkV_ren' (doesG l) c id) rfl (fun j hj=>by rw [lkV_ids] at hj;simpa using hj) rfl (c35 l hD he),h _ rfl⟩
    ·exact hk.elim
   ·exact hk.elim
  ·exact hk.elim
 ·exact hk.elim
theorem sp26_ok:SpOk Try.prog sp26:=zA b33g_ok (zA b34_ok (zH hD_ok (zH h36_ok zD)))
theorem c26 (m:MD) (op:Int) (ag:List V) (s:FS) (hm:MOk m) (hs:SOkS s) (hts:s.ts.length≤900) (ht:∀u∈ag,T28 u):
  CallP Try.prog 26 [mdV m,.agg [.int .i64 op,.list false ag],fsV s] (.tup [fsV (effO m op ag s),.list false (effE m op ag s),.bool (effG m op ag s),.bool (effOk m op ag s)]):=by
 refine call_loops sp26_ok Try.func26 Try.ntmps26 (by kernel_rfl) (zK (by kernel_rfl)) ((n26 m op ag s _).mpr ?_)
 refine ⟨ht,fun x0 e0=>?_⟩
 subst e0
 have er:∀b,effOk m op ag s=b→effO m op ag s=(if b=true then (if (effL m op ag s).g=true then (effL m op ag s).o else zFS) else zFS)∧effE m op ag s=(if b=true then (effL m op ag s).es else [])∧effG m op ag s=(if b=true then (effL m op ag s).g else false):=fun b e=>by
  subst e;exact ⟨rfl,rfl,rfl⟩
 have bad:effOk m op ag s=false→V.tup [V.agg [V.agg (arrF 16 zF),V.bool false,V.list false [],V.int IntKind.i64 0,V.list false []],V.list false [],V.bool false,V.bool false]=V.tup [fsV (effO m op ag s),.list false (effE m op ag s),.bool (effG m op ag s),.bool (effOk m op ag s)]:=fun e=>by
  obtain ⟨e1,e2,e3⟩:=er _ e
  rw [e1,e2,e3,e];rfl
 refine ⟨fun h1=>?_,fun h1=>?_⟩
 ·have h1:fitsG op ag=false:=by simpa using h1
  exact (bad (by unfold effOk;rw [h1];rfl)).symm▸rfl
 have h1:fitsG op ag=true:=by simpa using h1
 refine fun x1 e1=>?_
 subst e1
 refine ⟨fun h2=>?_,fun h2=>?_⟩
 ·exact (bad (by unfold effOk;rw [h1,h2];rfl)).symm▸rfl
 refine fun x2 e2=>?_
 subst e2
 obtain ⟨hA,ho1,ho2⟩:=fits_args h1 ht
 have ho3:op≠3:=by simpa using h2
 have hD:DOk ⟨m,op,ag,s,s,[], !endS op,true⟩:=⟨⟨⟨hm,hs,hs,fun v hv=>by cases hv⟩,hA,by simp⟩,ho1,ho2,ho3,hts⟩
 have hk:=does_keep hD.1 hts
 refine ⟨⟨m,op,ag,s,s,[], !endS op,true⟩,rfl,rfl,hD,fun l1 e1=>?_⟩
 subst e1
 refine ⟨_,rfl,rfl,⟨hk.1,fun u hu=>ht u (by rw [hk.2.1.1] at hu;exact hu), ?_⟩,fun l2 e2=>?_⟩
 ·have:=hk.2.2
  have e:(⟨m,op,ag,s,s,[], !endS op,true⟩:LK).es.length=0:=rfl
  omega
 have e2:l2=effL m op ag s:=e2
 subst e2
 have hok:effOk m op ag s=(effL m op ag s).rt:=by unfold effOk;rw [h1,h2];rfl
 refine fun x3 e3=>?_
 subst e3
 refine ⟨fun h9003=>?_,fun h9003=>?_⟩
 ·exact (bad (by rw [hok];simpa using h9003)).symm▸rfl
 have h9003:(effL m op ag s).rt=true:=by simpa using h9003
 obtain ⟨q1,q2,q3⟩:=er true (hok.trans h9003)
 refine fun x4 e4=>?_
 subst e4
 refine ⟨fun h9004=>⟨rfl, ?_⟩,fun h9004=>⟨rfl, ?_⟩⟩
 ·have h9004:(effL m op ag s).g=false:=by simpa using h9004
  rw [q1,q2,q3,hok,h9003,if_pos rfl,if_pos rfl,if_pos rfl,h9004];rfl
 ·have h9004:(effL m op ag s).g=true:=by simpa using h9004
  rw [q1,q2,q3,hok,h9003,if_pos rfl,if_pos rfl,if_pos rfl,h9004];rfl
end GoL
