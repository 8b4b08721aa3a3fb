/- A part of the proof: a logic proved sound over the model; contracts; plain laws. -/
import Derived.Test.YteeaefidpkifbaaR6N
import Derived.Test.YteeaefidpkifbaaG1P
set_option linter.all false
open Go Go.Proofs
namespace GoL
set_option maxRecDepth 8000
attribute [local irreducible] wC
theorem br_f {E:Bool} {A B:Prop} (h:E=false) (b:B):∀x,x=E→(x=true→A)∧(x=false→B):=fun x e=>by
 subst e;rw [h];exact ⟨fun h=>(by cases h),fun _=>b⟩
theorem br_e {E:Bool} {A B:Prop} (a:E=true→A) (b:E=false→B):∀x,x=E→(x=true→A)∧(x=false→B):=fun x e=>by
 subst e;exact ⟨a,b⟩
theorem let_ {α:Type} {E:α} {A:α→Prop} (a:A E):∀x,x=E→A x:=fun x e=>by subst e;exact a
theorem let_e {α:Type} {E E':α} {A:α→Prop} (h:E=E') (a:A E'):∀x,x=E→A x:=fun x e=>by rw [e,h];exact a
theorem mul_tab:((List.range 101).all fun y=>(bits .and .u64 (y:Int) 4294967295==(y:Int))&&(Int.fdiv (y:Int) (2 ^ 32)==0))=true:=by kernel_rfl
theorem mul_at {y:Int} (h0:0≤y) (h1:y≤100):bits .and .u64 y 4294967295=y∧Int.fdiv y (2 ^ 32)=0:=by
 obtain ⟨k,rfl⟩:∃k:Nat,y=k:=⟨y.toNat,by omega⟩
 have h:=mul_tab
 rw [List.all_eq_true] at h
 have:=h k (List.mem_range.2 (by omega))
 simpa using this
theorem c96 (y:Int) (h0:0≤y) (h1:y≤100):CallP Try.prog 96 [.int .u64 1,.int .u64 y] (.tup [.int .u64 0,.int .u64 y]):=by
 refine call_loops (hints:=zB) (prs:=zO []) (Ls:=noLs) (Sp:=sp96) (N:=51) zD Try.func96 Try.ntmps96 (by kernel_rfl) (zK (by kernel_rfl)) ((n96 y _).mpr ?_)
 obtain ⟨e3,e4⟩:=mul_at h0 h1
 have wy:IntKind.wrap IntKind.u64 y=y:=by rw [IntKind.wrap_u64];omega
 have w0:IntKind.wrap IntKind.u64 (0+0)=0:=by kernel_rfl
 have d0:Int.fdiv 0 (2 ^ 32)=0:=by kernel_rfl
 refine let_e (E':=1) (by kernel_rfl) ⟨by decide,fun _=>let_e (E':=0) (by kernel_rfl) (let_e e3 ⟨by decide,fun _=>let_e e4 ?_⟩)⟩
 refine let_e (E':=y) (by rw [Int.one_mul];exact wy) (let_e (E':=0) (by rw [Int.zero_mul];kernel_rfl) ⟨by decide,fun _=>let_e e4 (let_e w0 ?_)⟩)
 refine let_e (E':=0) (by kernel_rfl) ⟨by decide,fun _=>let_e d0 (let_e (E':=0) (by kernel_rfl) (let_e w0 (let_e (E':=0) (by kernel_rfl) (let_e w0 ⟨by decide,fun _=>let_e d0 (let_e w0 (let_e (E':=y) (by rw [Int.one_mul];exact wy) rfl))⟩))))⟩
theorem b96_ok (args:List V) (k:V→Prop) (h:b96 args k):∃r,CallP Try.prog 96 args r∧k r:=by
 unfold b96 at h
 split at h
 ·obtain ⟨rfl,h0,h1,h⟩:=h
  exact ⟨_,c96 _ h0 h1,h⟩
 ·exact h.elim
theorem sp89_ok:SpOk Try.prog sp89:=zA b96_ok zD
theorem b89_ok (args:List V) (k:V→Prop) (h:b89 args k):∃r,CallP Try.prog 89 args r∧k r:=by
 unfold b89 at h
 split at h
 ·obtain ⟨rfl,h0,h1,h⟩:=h
  exact ⟨_,call_loops sp89_ok Try.func89 Try.ntmps89 (by kernel_rfl) (zK (by kernel_rfl)) ((n89 _ _).mpr ⟨rfl,h0,h1,rfl⟩),h⟩
 ·exact h.elim
theorem sp76_ok:SpOk Try.prog sp76:=zA b89_ok zD
theorem fil_len {n g:Nat} (h:g≤n):(fil n g).length=n:=by unfold fil;simp;omega
theorem fil_ids (n g:Nat):∀v,List.Mem v (fil n g)→V.ids v=[]:=fun v hv=>by
 rcases List.mem_append.1 hv with hv|hv
 ·rw [(List.mem_replicate.1 hv).2];rfl
 ·rw [(List.mem_replicate.1 hv).2];rfl
theorem fil_step {n g:Nat} (h:g≤n):List.take g (fil n g)++List.take (min g (n-g)) (fil n g)++List.drop (g+min g (n-g)) (fil n g)=fil n (g+min g (n-g)):=by
 generalize hk:min g (n-g)=k
 have k1:k≤g:=by omega
 have k2:g+k≤n:=by omega
 have e1:∀j,j≤g→List.take j (fil n g)=List.replicate j kO:=fun j hj=>by
  unfold fil
  rw [List.take_append_of_le_length (by simp;omega),List.take_replicate,Nat.min_eq_left hj]
 have e2:List.drop (g+k) (fil n g)=List.replicate (n-(g+k)) kZ:=by
  unfold fil
  rw [List.drop_append,List.drop_eq_nil_of_le (by simp),List.nil_append,List.drop_replicate,List.length_replicate]
  congr 1
  omega
 rw [e1 g (Nat.le_refl _),e1 k k1,e2]
 unfold fil
 rw [←List.replicate_append_replicate (n:=g) (m:=k)]
theorem lp76:LsOk Try.prog 48 1028 [7,8] [1022] ent76 (zP Try.f76 0).2:=by
 intro vs ks1 K h
 unfold ent76 at h
 split at h
 ·rename_i n i rows
  obtain ⟨m,hn,rfl,rfl,rfl,hK⟩:=h
  refine zT (hints:=zB) (prs:=zN Try.f76) (Ls:=noLs) sp76_ok ends76_0 (γ:=Nat) (fun g=>[.sl 1022 n,.int .i64 g]) (fun g=>[⟨some 52,false,.agg (fil n g)⟩]) (fun g=>n-g)
   (fun g=>g≤n∧(1≤n→1≤g)) K (zK (by kernel_rfl)) ?_ (min 1 n) ⟨by omega,by omega⟩
  rintro g ⟨g0,g1⟩
  refine (nl76_0 n g (fil n g) _ _ _).mpr ?_
  have hl:=fil_len g0
  refine ⟨hl.symm,fun _=>let_ (br_e (fun hx=>?_) fun hx=>?_)⟩
  ·rw [hl] at hx
   have hx:(g:Int)<n:=by simpa using hx
   have hne:fil n g≠[]:=fun e=>by rw [e] at hl;simp at hl;omega
   have t1:Int.toNat (g:Int)=g:=rfl
   have t2:Int.toNat (Int.ofNat n)=n:=rfl
   have t3:Int.toNat (Int.ofNat 0)=0:=rfl
   rw [t1,t2,t3,hl]
   have t4:Int.ofNat n=(n:Int):=rfl
   have t5:Int.ofNat 0=0:=rfl
   rw [t4,t5]
   refine ⟨⟨rfl,rfl,rfl,trivial,trivial,by omega,by omega,by omega,by omega,rfl⟩,⟨rfl,rfl,rfl,trivial,trivial,by omega,by omega,by omega,by omega,rfl⟩,⟨rfl,rfl,rfl,rfl,hne,rfl,rfl,by omega,by omega,rfl⟩,let_ (let_ ?_)⟩
   have hw:IntKind.wrap IntKind.i64 ((g:Int)+((min (g-0) (n-g):Nat):Int))=((g+min g (n-g):Nat):Int):=by
    rw [IntKind.wrap_i64]
    simp only [Nat.sub_zero]
    omega
   rw [hw,Nat.sub_zero,fil_step g0]
   refine ⟨fil_ids _ _,g+min g (n-g),rfl,rfl,by show n-(g+min g (n-g))<n-g;omega,by show g+min g (n-g)≤n;omega,fun h=>by show 1≤g+min g (n-g);omega⟩
  ·rw [hl] at hx
   have hx:¬((g:Int)<n):=by simpa using hx
   have e:g=n:=by omega
   subst e
   exact ⟨fil_ids _ _,hK⟩
 ·exact h.elim
theorem fil_all (n:Nat):fil n n=rep0 n:=by
 unfold fil rep0
 simp [kO]
theorem c76 (n:Nat) (h:n≤100):CallP Try.prog 76 [.list false [kO],.int .i64 n] (.list false (rep0 n)):=by
 refine call_loops (Sp:=sp76) sp76_ok Try.func76 Try.ntmps76 (by kernel_rfl) (zR fun p hp=>?_) ((n76 n _).mpr ?_)
 ·have e:loopsOf 0 (zC Try.f76)=[zP Try.f76 0]:=by kernel_rfl
  rw [e] at hp
  simp only [List.mem_cons,List.not_mem_nil,or_false] at hp
  subst hp
  exact zU lp76
 have wn:IntKind.wrap IntKind.u64 (n:Int)=n:=by rw [IntKind.wrap_u64];omega
 have wi:IntKind.wrap IntKind.i64 (n:Int)=n:=by rw [IntKind.wrap_i64];omega
 refine br_f (by simp) fun _=>let_ ⟨rfl,fun _=>let_e (E':=1) (by kernel_rfl) ⟨rfl,fun _=>let_e wn ⟨rfl,by omega,by omega,br_f rfl (br_f (by simp;omega) ⟨rfl,fun _=>let_e wi ?_⟩)⟩⟩⟩
 refine ⟨⟨by omega,Int.le_refl _,by omega,by omega,rfl⟩,fun _=>⟨⟨by simp,rfl,rfl,trivial,fun v hv=>?_,fun j e=>(by cases e),fun j e=>(by cases e)⟩,fun _=>let_ ?_⟩⟩
 ·rcases List.mem_cons.1 hv with rfl|hv
  ·rfl
  ·cases hv
 have t1:Int.toNat (n:Int)=n:=rfl
 rw [t1,List.length_replicate]
 have e:List.take n [V.agg [V.int IntKind.i64 0,V.int IntKind.i64 (-1)]]++List.drop (List.length [V.agg [V.int IntKind.i64 0,V.int IntKind.i64 (-1)]]) (List.replicate n (V.agg [V.int IntKind.i64 0,V.int IntKind.i64 0]))=fil n (min 1 n):=by
  cases n with
  |zero=>rfl
  |succ n=>
   have:min 1 (n+1)=1:=by omega
   rw [this]
   unfold fil
   simp [kO,kZ]
 rw [e]
 exact ⟨fil_ids _ _,n,h,rfl,rfl,rfl,(fil_len (Nat.le_refl _)).symm,by rw [fil_all]⟩
theorem b76_ok (args:List V) (k:V→Prop) (h:b76 args k):∃r,CallP Try.prog 76 args r∧k r:=by
 unfold b76 at h
 split at h
 ·rename_i xs n
  obtain ⟨rfl,h0,h1,h⟩:=h
  obtain ⟨m,rfl⟩:∃m:Nat,n=m:=⟨n.toNat,by omega⟩
  exact ⟨_,c76 m (by omega),h _ rfl⟩
 ·exact h.elim
end GoL
