/- A part of the proof. -/
import Derived.Test.YtonpfomjoiaacaaGreatDoorMw10
set_option maxRecDepth 100000
set_option maxHeartbeats 4000000
set_option linter.unusedSectionVars false
set_option linter.unusedVariables false
set_option linter.unusedSimpArgs false
section
namespace Go.iG
open Go Go.RowKit
section
variable [Rd]
theorem o9{H:Hp}{news:List (Nat×Ob)}(hd:aP H news):Sub H (aD H news):=gP (r':=[]) hd .nil (by simp)
def RawH(G:Hp):Prop:=∀i ob,G i=some ob->∃g x,ob=.raw g x
def low(H:Hp):Hp:=λi=>if i<2 then H i else none
theorem RS(H:Hp):Sub (low H) H:=λi ob h=>by unfold low at h;split at h;exact h;cases h
theorem Ck{G:Hp}{i:Nat}{ob:Ob}:∀{r:List (Nat×Ob)},aD G r i=some ob->(i,ob)∈r\/G i=some ob
 |[],h=> .inr h
 |(j,o)::r,h=>by
  by_cases hj:i=j
  ·subst hj
   have:aD G ((i,o)::r) i=some o:=by show set _ _ _ _=_;simp
   rw[this] at h;cases h;simp
  ·have:aD G ((j,o)::r) i=aD G r i:=by show set _ _ _ _=_;rw[dZ _ _ hj]
   rw[this] at h
   exact(Ck h).imp (List.mem_cons_of_mem _) id
section
variable {P:Program} {n:Nat} {ops:Array Oper} {G H0:Hp} {l:List (Nat×AV)} {I keep:List (Nat×Ob)} {us ni df:List AV} {u r:AV} {f:Nat} {cc:Operand} {args:Array Operand} {at_:Array TypeId} {dst:Option Nat} {ty:TypeId} {ps:String} {af:Array Edge}
theorem Z.bK(hc:aW l cc=some (.iF f df))(ha:iM l args.toList=some us)(h:∀H,Sub H0 H->au P f (us++df) H (bB H r)):QS P n ops H0 ⟨dst,.call {callee:=.value cc,args:=args,argTypes:=at_},ty,ps,af,none⟩ l I r:=QS.call U U hc ha λhd=>h _ (o9 hd)
end
end
end Go.iG
end
