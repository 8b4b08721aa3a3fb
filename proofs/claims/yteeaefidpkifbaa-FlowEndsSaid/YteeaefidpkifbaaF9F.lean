/- Proved here, of the given program: the law FlowEnds returns true for every input, and leaves its arguments as they were. No conditions. -/
import Derived.Test.YteeaefidpkifbaaF9P
import Derived.Test.YteeaefidpkifbaaGD
import Derived.Test.YteeaefidpkifbaaRows
import Derived.WalkKit
import Derived.ProofKit
import Derived.OpenShut
set_option linter.all false
namespace GoL
open Go Go.Proofs
theorem len2e {α:Type} {l:List α} (h:l.length=2):∃a b,l=[a,b]:=by
 match l,h with
 |[a,b],_=>exact ⟨a,b,rfl⟩
theorem ty3i {v:V} (h:Typed Try.prog reachBytes 3 v):∃n:Int,v=.int .i64 n:=by
 obtain ⟨n,rfl,_⟩:=h.int_inv Try.underlying3
 exact ⟨n,rfl⟩
theorem ty22 {v:V} (h:Typed Try.prog reachBytes 22 v):∃xs:List V,v=.list false xs∧NLs xs∧xs.length≤9223372036854775807:=by
 obtain ⟨xs,rfl,hl,hk⟩:=h.list_inv Try.underlying22
 refine ⟨xs,rfl,fun u hu=>ty3i (hk u hu), ?_⟩
 have e:Try.prog.bytesOf 3=8:=by kernel_rfl
 rw [e] at hl
 have:xs.length*8≤140737488351232:=hl
 omega
end GoL
namespace Go.Proofs.Yteeaefidpkifbaa
open Go.ChangeShapes Go.WideShapes Go.ChangeAt Go.RowKit GoL
theorem ownE:ownKnob Try.prog.godebug=none:=by kernel_rfl
theorem laidE:laidOutB Try.prog=true:=by kernel_rfl
set_option maxRecDepth 100000 in
theorem ends_lifted (os:Os) (started:os.Started) (H:Type) (enc:TypeId×Value→H):
  ReturnsInHanded {} Try.checked os 3 .any (Rows.flowEndsSpec.pre6 enc Try.prog Try.f3 Rows.flowEndsRow.domain false) (Rows.flowEndsSpec.post enc Try.prog Try.f3 false true false false):=by
 refine law_lifted (C:=Try.checked) ownE started (by kernel_rfl) Try.func3
  (ChangeSpec.witness6 (enc:=enc) (C:=Try.checked) false ⟨#[],#[.slice none 0 0,.int .i64 0],[]⟩ 8 (by kernel_rfl) (by kernel_rfl) (by kernel_rfl) (by kernel_rfl))
  [3,4,22] (by kernel_rfl) (by kernel_rfl) (tb:=4) rfl Try.underlying4 rfl ?_ laidE ?_
 ·intro ds h
  obtain ⟨a,b,rfl⟩:=len2e h
  rfl
 ·intro trees h ht
  obtain ⟨a,b,rfl⟩:=len2e h
  obtain ⟨xs,rfl,hx,hl⟩:=ty22 (ht 0 22 a rfl rfl)
  obtain ⟨y,rfl⟩:=ty3i (ht 1 3 b rfl rfl)
  exact c3 xs y hx hl
theorem ends_holds:Rows.FlowEndsSaid:=
 OpenClaim.holds_of_wide 3 Try.f3 rfl rfl rfl rfl rfl rfl rfl ⟨rfl,rfl,rfl,rfl,rfl⟩ rfl rfl rfl rfl rfl (by kernel_rfl) Try.func3 (by kernel_rfl)
  (of_decide_eq_true (by kernel_rfl)) (by unfold Func.isWrapper;first|(rw [if_pos (by decide +kernel)];kernel_rfl)|(rw [if_neg (by decide +kernel)];exact ⟨rfl,rfl⟩))
  (fun os started H enc _=>ends_lifted os started H enc)
end Go.Proofs.Yteeaefidpkifbaa
