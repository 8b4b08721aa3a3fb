/- A part of the proof: a logic proved sound over the model; contracts; plain laws. -/
import Derived.Test.YteeaefidpkifbaaON
set_option linter.all false
open Go Go.Proofs
namespace GoL
set_option maxRecDepth 8000
attribute [local irreducible] wC
theorem sp44_ok:SpOk Try.prog sp44:=zD
theorem c44 (op:Int):CallP Try.prog 44 [.int .i64 op] (.str (sigS op)):=by
 refine zJ sp44_ok Try.func44 Try.ntmps44 (by kernel_rfl) ((n44 op _).mpr ?_)
 (repeat' (first|(refine And.intro ?_ ?_)|(intro x hx;subst hx)|(intro _)))<;>(first|rfl|(simp only [sigS, *,if_true,if_false,Bool.false_eq_true,cond_true,cond_false,↓reduceIte];done)|(simp only [sigS, *,if_true,if_false,Bool.false_eq_true,cond_true,cond_false,↓reduceIte];first|rfl|(simp;done))|skip)
theorem b44_ok (args:List V) (k:V→Prop) (h:b44 args k):∃r,CallP Try.prog 44 args r∧k r:=by
 unfold b44 at h
 split at h
 ·exact ⟨_,c44 _,h⟩
 ·exact h.elim
theorem sp34_ok:SpOk Try.prog sp34:=zD
theorem c34 (op:Int):CallP Try.prog 34 [.int .i64 op] (.bool (endS op)):=by
 refine zJ sp34_ok Try.func34 Try.ntmps34 (by kernel_rfl) ((n34 op _).mpr ?_)
 (repeat' (first|(refine And.intro ?_ ?_)|(intro x hx;subst hx)|(intro _)))<;>(first|rfl|(simp only [endS, *,if_true,if_false,Bool.false_eq_true,cond_true,cond_false,↓reduceIte];done)|(simp only [endS, *,if_true,if_false,Bool.false_eq_true,cond_true,cond_false,↓reduceIte];first|rfl|(simp;done))|skip)
theorem b34_ok (args:List V) (k:V→Prop) (h:b34 args k):∃r,CallP Try.prog 34 args r∧k r:=by
 unfold b34 at h
 split at h
 ·exact ⟨_,c34 _,h⟩
 ·exact h.elim
theorem sp68_ok:SpOk Try.prog sp68:=zD
theorem c68 (t n:Int) (ls:List V):CallP Try.prog 68 [.agg [.int .i64 t,.int .i64 n,.list false ls]] (.bool (plainB t n ls)):=by
 refine zJ sp68_ok Try.func68 Try.ntmps68 (by kernel_rfl) ((n68 t n ls _).mpr ?_)
 (repeat' (first|(refine And.intro ?_ ?_)|(intro x hx;subst hx)|(intro _)))<;>(first|rfl|(simp only [plainB, *,if_true,if_false,Bool.false_eq_true,cond_true,cond_false,↓reduceIte];done)|(simp only [plainB, *,if_true,if_false,Bool.false_eq_true,cond_true,cond_false,↓reduceIte];first|rfl|(simp;done))|skip)
theorem b68_ok (args:List V) (k:V→Prop) (h:b68 args k):∃r,CallP Try.prog 68 args r∧k r:=by
 unfold b68 at h
 split at h
 ·exact ⟨_,c68 _ _ _,h⟩
 ·exact h.elim
theorem sp70_ok:SpOk Try.prog sp70:=zD
theorem c70 (t n:Int) (ls:List V):CallP Try.prog 70 [.agg [.int .i64 t,.int .i64 n,.list false ls]] (.bool (regB t n)):=by
 refine zJ sp70_ok Try.func70 Try.ntmps70 (by kernel_rfl) ((n70 t n ls _).mpr ?_)
 (repeat' (first|(refine And.intro ?_ ?_)|(intro x hx;subst hx)|(intro _)))<;>(first|rfl|(simp only [regB, *,if_true,if_false,Bool.false_eq_true,cond_true,cond_false,↓reduceIte];done)|(simp only [regB, *,if_true,if_false,Bool.false_eq_true,cond_true,cond_false,↓reduceIte];first|rfl|(simp;done))|skip)
theorem b70_ok (args:List V) (k:V→Prop) (h:b70 args k):∃r,CallP Try.prog 70 args r∧k r:=by
 unfold b70 at h
 split at h
 ·exact ⟨_,c70 _ _ _,h⟩
 ·exact h.elim
theorem sp69_ok:SpOk Try.prog sp69:=zA b70_ok (zD)
theorem c69 (t n:Int) (ls:List V):CallP Try.prog 69 [.agg [.int .i64 t,.int .i64 n,.list false ls]] (.bool (srcB t n)):=by
 refine zJ sp69_ok Try.func69 Try.ntmps69 (by kernel_rfl) ((n69 t n ls _).mpr ?_)
 (repeat' (first|(refine And.intro ?_ ?_)|(intro x hx;subst hx)|(intro _)))<;>(first|rfl|(simp only [srcB, *,if_true,if_false,Bool.false_eq_true,cond_true,cond_false,↓reduceIte];done)|(simp only [srcB, *,if_true,if_false,Bool.false_eq_true,cond_true,cond_false,↓reduceIte];first|rfl|(simp;done))|skip)
theorem b69_ok (args:List V) (k:V→Prop) (h:b69 args k):∃r,CallP Try.prog 69 args r∧k r:=by
 unfold b69 at h
 split at h
 ·exact ⟨_,c69 _ _ _,h⟩
 ·exact h.elim
theorem sp7_ok:SpOk Try.prog sp7:=zD
theorem c7 (n:Int):CallP Try.prog 7 [.int .i64 n] (.agg [.int .i64 2,.int .i64 n,.list false []]):=by
 refine zJ sp7_ok Try.func7 Try.ntmps7 (by kernel_rfl) ((n7 n _).mpr ?_)
 rfl
theorem b7_ok (args:List V) (k:V→Prop) (h:b7 args k):∃r,CallP Try.prog 7 args r∧k r:=by
 unfold b7 at h
 split at h
 ·exact ⟨_,c7 _,h⟩
 ·exact h.elim
theorem sp13_ok:SpOk Try.prog sp13:=zD
theorem c13 (n:Int):CallP Try.prog 13 [.int .i64 n] (.agg [.int .i64 3,.int .i64 n,.list false []]):=by
 refine zJ sp13_ok Try.func13 Try.ntmps13 (by kernel_rfl) ((n13 n _).mpr ?_)
 rfl
theorem b13_ok (args:List V) (k:V→Prop) (h:b13 args k):∃r,CallP Try.prog 13 args r∧k r:=by
 unfold b13 at h
 split at h
 ·exact ⟨_,c13 _,h⟩
 ·exact h.elim
theorem sp15_ok:SpOk Try.prog sp15:=zD
theorem c15 (n:Int):CallP Try.prog 15 [.int .i64 n] (.agg [.int .i64 5,.int .i64 n,.list false []]):=by
 refine zJ sp15_ok Try.func15 Try.ntmps15 (by kernel_rfl) ((n15 n _).mpr ?_)
 rfl
theorem b15_ok (args:List V) (k:V→Prop) (h:b15 args k):∃r,CallP Try.prog 15 args r∧k r:=by
 unfold b15 at h
 split at h
 ·exact ⟨_,c15 _,h⟩
 ·exact h.elim
theorem sp6_ok:SpOk Try.prog sp6:=zD
theorem c6 (n:Int):CallP Try.prog 6 [.int .i64 n] (.agg [.int .i64 0,.int .i64 n,.list false []]):=by
 refine zJ sp6_ok Try.func6 Try.ntmps6 (by kernel_rfl) ((n6 n _).mpr ?_)
 rfl
theorem b6_ok (args:List V) (k:V→Prop) (h:b6 args k):∃r,CallP Try.prog 6 args r∧k r:=by
 unfold b6 at h
 split at h
 ·exact ⟨_,c6 _,h⟩
 ·exact h.elim
theorem sp8_ok:SpOk Try.prog sp8:=zD
theorem c8 (x n:Int) (hp:n≠0):CallP Try.prog 8 [.int .i64 x,.int .i64 n] (.int .i64 (place x n)):=by
 refine zJ sp8_ok Try.func8 Try.ntmps8 (by kernel_rfl) ((n8 x n _).mpr ?_)
 refine ⟨⟨rfl,hp⟩,fun _=>?_⟩
 (repeat' (first|(refine And.intro ?_ ?_)|(intro x hx;subst hx)|(intro _)))<;>(first|rfl|(simp only [place, *,if_true,if_false,Bool.false_eq_true,cond_true,cond_false,↓reduceIte];done)|(simp only [place, *,if_true,if_false,Bool.false_eq_true,cond_true,cond_false,↓reduceIte];first|rfl|(simp;done))|skip)
theorem b8_ok (args:List V) (k:V→Prop) (h:b8 args k):∃r,CallP Try.prog 8 args r∧k r:=by
 unfold b8 at h
 split at h
 ·exact ⟨_,c8 _ _ h.1,h.2⟩
 ·exact h.elim
theorem sp5_ok:SpOk Try.prog sp5:=zD
theorem c5 (op:Int) (xs:List V) (hp:(∀v,List.Mem v xs→V.sz v=3)∧xs.length≤1000):CallP Try.prog 5 [.int .i64 op,.list false xs] (.agg [.int .i64 op,.list false xs]):=by
 refine zJ sp5_ok Try.func5 Try.ntmps5 (by kernel_rfl) ((n5 op xs _).mpr ?_)
 refine ⟨⟨⟨rfl,trivial⟩,hp.1,rfl,rfl,40,rfl,by have:=hp.2;omega,by have:=hp.2;omega⟩,fun _=>⟨rfl,rfl⟩⟩
theorem b5_ok (args:List V) (k:V→Prop) (h:b5 args k):∃r,CallP Try.prog 5 args r∧k r:=by
 unfold b5 at h
 split at h
 ·exact ⟨_,c5 _ _ h.1,h.2⟩
 ·exact h.elim
theorem drop_dec {xs:List V} {i:Int} (h0:0≤i) (h:i<xs.length):xs.drop i.toNat=getV xs i::xs.drop (i+1).toNat:=by
 have hb:i.toNat<xs.length:=by omega
 have e:(i+1).toNat=i.toNat+1:=by omega
 rw [e,List.drop_eq_getElem_cons hb]
 unfold getV
 rw [List.getD_eq_getElem?_getD,List.getElem?_eq_getElem hb]
 rfl
end GoL
