/- A part of the proof. -/
import Derived.Test.YtbooeongacgnbaaGreatDoorMw09
set_option maxRecDepth 100000
set_option maxHeartbeats 4000000
set_option linter.unusedSectionVars false
set_option linter.unusedVariables false
set_option linter.unusedSimpArgs false
section
namespace Go.gW
open Go Go.RowKit
section
variable [Rd]
theorem Es{H:Hp}{news:List (Nat×Ob)}(hd:aK H news):Sub H (aB H news):=gB (r':=[]) hd .nil (by simp)
section
variable {P:Program} {n:Nat} {ops:Array Oper} {G H0:Hp} {l:List (Nat×AV)} {M keep:List (Nat×Ob)} {us lu dD:List AV} {u r:AV} {f:Nat} {cc:Operand} {args:Array Operand} {at_:Array TypeId} {dst:Option Nat} {ty:TypeId} {ps:String} {af:Array Edge}
theorem Z.bU(hc:bA l cc=some (.lW f dD))(ha:gD l args.toList=some us)(h:∀H,Sub H0 H->F P f (us++dD) H (bn H r)):QS P n ops H0 ⟨dst,.call {callee:=.value cc,args:=args,argTypes:=at_},ty,ps,af,none⟩ l M r:=QS.call U U hc ha λhd=>h _ (Es hd)
end
end
end Go.gW
end
