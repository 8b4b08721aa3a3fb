/- A part of the proof: a logic proved sound over the model; contracts; plain laws. -/
import Derived.Test.YteeaefidpkifbaaG1N
import Derived.Test.YteeaefidpkifbaaNP
set_option linter.all false
open Go Go.Proofs
namespace GoL
set_option maxRecDepth 8000
attribute [local irreducible] wC
theorem sp62_ok:SpOk Try.prog sp62:=zD
theorem c62 (m:Int):CallP Try.prog 62 [.int .i64 m] (.agg [.int .i64 m,.int .i64 (-1)]):=by
 refine zJ sp62_ok Try.func62 Try.ntmps62 (by kernel_rfl) ((n62 m _).mpr ?_)
 rfl
theorem b62_ok (args:List V) (k:V→Prop) (h:b62 args k):∃r,CallP Try.prog 62 args r∧k r:=by
 unfold b62 at h
 split at h
 ·exact ⟨_,c62 _,h⟩
 ·exact h.elim
theorem sp58_ok:SpOk Try.prog sp58:=zD
theorem c58 (n a b:Int):CallP Try.prog 58 [.int .i64 n,.int .i64 a,.int .i64 b] (.bool (betw n a b)):=by
 refine zJ sp58_ok Try.func58 Try.ntmps58 (by kernel_rfl) ((n58 n a b _).mpr ?_)
 (repeat' (first|(refine And.intro ?_ ?_)|(intro x hx;subst hx)|(intro _)))<;>(first|rfl|(simp only [betw, *,if_true,if_false,Bool.false_eq_true,cond_true,cond_false,↓reduceIte];done)|(simp only [betw, *,if_true,if_false,Bool.false_eq_true,cond_true,cond_false,↓reduceIte];first|rfl|(simp;done))|skip)
theorem b58_ok (args:List V) (k:V→Prop) (h:b58 args k):∃r,CallP Try.prog 58 args r∧k r:=by
 unfold b58 at h
 split at h
 ·exact ⟨_,c58 _ _ _,h⟩
 ·exact h.elim
theorem sp82_ok:SpOk Try.prog sp82:=zA b60_ok (zD)
theorem c82 (m a x:Int):CallP Try.prog 82 [.agg [.int .i64 m,.int .i64 a],.int .i64 x] (.agg [.int .i64 (meet m a (notI x)).1,.int .i64 (meet m a (notI x)).2]):=by
 refine zJ sp82_ok Try.func82 Try.ntmps82 (by kernel_rfl) ((n82 m a x _).mpr ?_)
 intro x hx;subst hx;rfl
theorem b82_ok (args:List V) (k:V→Prop) (h:b82 args k):∃r,CallP Try.prog 82 args r∧k r:=by
 unfold b82 at h
 split at h
 ·exact ⟨_,c82 _ _ _,h⟩
 ·exact h.elim
theorem sp81_ok:SpOk Try.prog sp81:=zA b91_ok zD
theorem c81 (f:Nat→Int×Int) (fr:Bool) (ys ts:List V) (rm:Int) (tg n:Int) (ls:List V) (m a:Int) (hs:SOk (arrF 16 f) ys ts):CallP Try.prog 81 [.agg [.agg (arrF 16 f),.bool fr,.list false ys,.int .i64 rm,.list false ts],.agg [.int .i64 tg,.int .i64 n,.list false ls],.agg [.int .i64 m,.int .i64 a]] (.agg [.agg (arrF 16 (refF f tg n m a)),.bool fr,.list false (refZ fr ys tg n m a),.int .i64 rm,.list false ts]):=by
 refine zJ sp81_ok Try.func81 Try.ntmps81 (by kernel_rfl) ((n81 f fr ys ts rm tg n ls m a _).mpr ?_)
 intro x0 e0;subst e0
 refine ⟨fun h=>?_,fun h=>?_⟩
 ·refine ⟨hs,f,rfl,fun g hg zs hz ok hok=>?_⟩
  subst hg hz
  simp only [refF,refZ,h,if_true]
 ·intro x1 e1;subst e1
  refine ⟨fun h9004=>?_,fun h9004=>?_⟩
  ·refine ⟨hs,f,rfl,fun g hg zs hz ok hok=>?_⟩
   subst hg hz
   simp only [refF,refZ,h,h9004,if_true,if_false,Bool.false_eq_true]
  ·simp only [refF,refZ,h,h9004,if_true,if_false,Bool.false_eq_true]
theorem b81_ok (args:List V) (k:V→Prop) (h:b81 args k):∃r,CallP Try.prog 81 args r∧k r:=by
 unfold b81 at h
 split at h
 ·obtain ⟨hs,f,rfl,hk⟩:=h
  exact ⟨_,c81 _ _ _ _ _ _ _ _ _ _ hs,hk _ rfl _ rfl⟩
 ·exact h.elim
theorem drop_get {ts:List V} {i:Int} (h0:0≤i) (h:i<ts.length):ts.drop i.toNat=getV ts i::ts.drop (i+1).toNat:=drop_dec h0 h
theorem sp97_ok:SpOk Try.prog sp97:=zD
theorem lp97:LsOk Try.prog 19 1000 [0,1,7,8] [] ent97 (zP Try.f97 0).2:=by
 intro vs ks K h
 unfold ent97 at h
 split at h
 ·rename_i ts n l i
  obtain ⟨rfl,hn,hb,rfl,hK1,hK2⟩:=h
  refine zT (hints:=zB) (prs:=zO []) (Ls:=noLs) sp97_ok ends97_0 (γ:=Int) (fun i=>[.list false ts,.int .i64 n,.int .i64 ts.length,.int .i64 i]) (fun _=>[]) (fun i=>ts.length-i.toNat)
   (fun i=>0≤i∧i≤ts.length∧idxI (ts.drop i.toNat) n i=idxI ts n 0) K (zK (by kernel_rfl)) ?_ 0 ⟨by omega,by omega,rfl⟩
  rintro i ⟨h0,h1,h2⟩
  refine (nl97_0 ts n _ i _ _ _).mpr ?_
  intro x hx;subst hx
  refine ⟨fun h9005=>?_,fun h9005=>?_⟩
  ·simp only [decide_eq_true_eq] at h9005
   rw [drop_get h0 h9005] at h2
   obtain ⟨m,hm⟩:=hn (getV ts i) (by
    have hlt:i.toNat<ts.length:=by omega
    have:getV ts i=ts[i.toNat]:=by simp [getV,List.getD,hlt]
    rw [this];exact List.getElem_mem hlt)
   refine ⟨h0,h9005,m,hm,fun y hy=>?_⟩
   subst hy
   rw [hm] at h2
   simp only [idxI] at h2
   refine ⟨fun h8=>?_,fun h8 z hz=>?_⟩
   ·rw [if_pos h8] at h2
    exact hK2 i h2.symm (by omega)
   ·rw [if_neg (by rw [h8];decide)] at h2
    have hz':z=i+1:=by rw [hz,IntKind.wrap_i64];omega
    subst hz'
    exact ⟨i+1,rfl,rfl,by show ts.length-(i+1).toNat<ts.length-i.toNat;omega,by omega,by omega,h2⟩
  ·simp only [decide_eq_false_iff_not] at h9005
   have hd:ts.drop i.toNat=[]:=List.drop_eq_nil_of_le (by omega)
   rw [hd] at h2
   exact hK1 h2.symm
 ·exact h.elim
theorem c97 (ts:List V) (n:Int) (hn:NLs ts) (hb:ts.length≤100000):CallP Try.prog 97 [.list false ts,.int .i64 n] (.int .i64 (idxI ts n 0)):=by
 refine call_loops sp97_ok Try.func97 Try.ntmps97 (by kernel_rfl) (zR fun p hp=>?_) ((n97 ts n _).mpr fun _ x hx=>⟨hx,hn,hb,rfl,fun h=>by rw [h],fun j h _=>by rw [h]⟩)
 have e:loopsOf 0 (zC Try.f97)=[zP Try.f97 0]:=by kernel_rfl
 rw [e] at hp
 simp only [List.mem_cons,List.not_mem_nil,or_false] at hp
 subst hp
 exact zU lp97
theorem b97_ok (args:List V) (k:V→Prop) (h:b97 args k):∃r,CallP Try.prog 97 args r∧k r:=by
 unfold b97 at h
 split at h
 ·exact ⟨_,c97 _ _ h.1 h.2.1,h.2.2⟩
 ·exact h.elim
theorem sp90_ok:SpOk Try.prog sp90:=zA b97_ok zD
theorem c90 (ts:List V) (n:Int) (hn:NLs ts) (hb:ts.length≤100000):CallP Try.prog 90 [.list false ts,.int .i64 n] (.bool (memI ts n)):=by
 refine zJ sp90_ok Try.func90 Try.ntmps90 (by kernel_rfl) ((n90 ts n _).mpr ⟨hn,hb,fun x hx=>by subst hx;rfl⟩)
theorem b90_ok (args:List V) (k:V→Prop) (h:b90 args k):∃r,CallP Try.prog 90 args r∧k r:=by
 unfold b90 at h
 split at h
 ·exact ⟨_,c90 _ _ h.1 h.2.1,h.2.2⟩
 ·exact h.elim
theorem sp77_ok:SpOk Try.prog sp77:=zD
theorem c77 (ys:List V) (hy:KLs ys) (hb:ys.length≤1000):CallP Try.prog 77 [.list false ys] (.list false ys):=by
 refine zJ sp77_ok Try.func77 Try.ntmps77 (by kernel_rfl) ((n77 ys _).mpr ⟨trivial,fun b h=>⟨fun e=>?_,fun _=>⟨⟨rfl,rfl,⟨rfl,trivial⟩,kls_sz hy,rfl,rfl,16,rfl,by omega,by omega⟩,fun _=>⟨by simp,rfl⟩⟩⟩⟩)
 have:ys=[]:=Classical.byContradiction fun hn=>by rw [h hn] at e;cases e
 rw [this]
theorem b77_ok (args:List V) (k:V→Prop) (h:b77 args k):∃r,CallP Try.prog 77 args r∧k r:=by
 unfold b77 at h
 split at h
 ·exact ⟨_,c77 _ h.1 h.2.1,h.2.2 _ rfl⟩
 ·exact h.elim
theorem c77H (ys:List V) (hy:KLs ys) (hb:ys.length≤1000) (hn:ys≠[]):CallH Try.prog 77 [.list false ys] (lkB []) (.sl 1003 ys.length) (lkB [(1003,⟨some 52,false,.agg ys⟩)]):=by
 refine callH_go (η:=[]) (ids:=[1003]) (ks:=[⟨some 52,false,.agg ys⟩]) (hint:=none) (Ls:=noLs) (hints:=zB) (prs:=zO []) (N:=8) sp77_ok Try.func77 Try.ntmps77 (by kernel_rfl) (zK (by kernel_rfl)) ?_
 refine (n77h ys _ _).mpr ⟨trivial,fun b h=>⟨fun e=>?_,fun _=>⟨⟨rfl,rfl,⟨rfl,trivial⟩,kls_sz hy,rfl,rfl,16,rfl,by omega,by omega⟩,fun _=>?_⟩⟩⟩
 ·rw [h hn] at e;cases e
 ·simp
theorem h77_ok:HOk Try.prog 77 h77:=by
 intro hvc rest H1 id k h
 unfold h77 at h
 split at h
 ·obtain ⟨h1,h2,h9003,hk⟩:=h
  exact ⟨_,_,hsem_new (m:=1003) rfl (fun j hj=>by simpa [V.idsB] using hj) (c77H _ h1 h2 h9003),hk _ rfl⟩
 ·exact h.elim
theorem sp84_ok:SpOk Try.prog sp84:=zD
theorem c84 (ts:List V) (hy:NLs ts) (hb:ts.length≤1000):CallP Try.prog 84 [.list false ts] (.list false ts):=by
 refine zJ sp84_ok Try.func84 Try.ntmps84 (by kernel_rfl) ((n84 ts _).mpr ⟨trivial,fun b h=>⟨fun e=>?_,fun _=>⟨⟨rfl,rfl,⟨rfl,trivial⟩,nls_sz hy,rfl,rfl,8,rfl,by omega,by omega⟩,fun _=>⟨by simp,rfl⟩⟩⟩⟩)
 have:ts=[]:=Classical.byContradiction fun hn=>by rw [h hn] at e;cases e
 rw [this]
theorem b84_ok (args:List V) (k:V→Prop) (h:b84 args k):∃r,CallP Try.prog 84 args r∧k r:=by
 unfold b84 at h
 split at h
 ·exact ⟨_,c84 _ h.1 h.2.1,h.2.2 _ rfl⟩
 ·exact h.elim
end GoL
