/- A part of the proof: a logic proved sound over the model; contracts; plain laws. -/
import Derived.Test.YteeaefidpkifbaaG1P
import Derived.Test.YteeaefidpkifbaaProg
import Derived.KernelRfl
set_option linter.all false
open Go Go.Proofs
namespace GoL
def sp96:SpT:=zM
def b96:List V→(V→Prop)→Prop
 |[.int .u64 x,.int .u64 y],k=>x=1∧0≤y∧y≤100∧k (.tup [.int .u64 0,.int .u64 y])
 |_,_=>False
def sp89:SpT:=zI 96 b96 zM
def b89:List V→(V→Prop)→Prop
 |[.int .u64 x,.int .u64 y],k=>x=1∧0≤y∧y≤100∧k (.tup [.int .u64 0,.int .u64 y])
 |_,_=>False
def sp76:SpT:=zI 89 b89 zM
def kZ:V:=.agg [.int .i64 0,.int .i64 0]
def kO:V:=.agg [.int .i64 0,.int .i64 (-1)]
def fil (n i:Nat):List V:=List.replicate i kO++List.replicate (n-i) kZ
def ent76:List V→List Blk→KK→Prop
 |[.sl 1022 len,.int .i64 i],[⟨some 52,false,.agg rows⟩],K=>∃n:Nat,n≤100∧len=n∧rows=fil n (min 1 n)∧i=(min 1 n:Nat)∧K (.exit 0) 1028 [(7,.sl 1022 n)] [(1022,⟨some 52,false,.agg (fil n n)⟩)]
 |_,_,_=>False
def ls76:LsT:=lsAdd 0 1028 [7,8] [1022] ent76 noLs
def ends76_0:EndsL:=⟨1028,[7,8],[1022],0,1028,[7],[1022],[],[]⟩
end GoL
