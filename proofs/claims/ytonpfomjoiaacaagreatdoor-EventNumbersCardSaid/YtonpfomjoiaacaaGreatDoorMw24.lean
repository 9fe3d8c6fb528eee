/- A part of the proof. -/
import Derived.RangeFuncBox
import Derived.RangeFuncLeaves
import Derived.RangeFuncFrom
import Derived.Shelf.Abstract
import Derived.WalkKit
import Derived.OwnWalkIn
import Derived.TacticsInMore
import Derived.LoopNIn
import Derived.LoopIn
import Derived.BigRegionIn
import Derived.Test.YtonpfomjoiaacaaGreatDoorProg
set_option maxRecDepth 100000
set_option maxHeartbeats 4000000
set_option linter.unusedSectionVars false
set_option linter.unusedVariables false
set_option linter.unusedSimpArgs false
section
namespace Go.Proofs.YtonpfomjoiaacaaGreatDoor
open Go Go.RowKit Go.Shelf
section
attribute [local go_sem] Oper.semAt_some
def w9(a:Addr)(len c k:Nat):Value:=.slice (some (a.add k)) (min c (len-k)) (min c (len-k))
def pq(bs bn:Nat)(W W':World):Prop:=W'.heap[bs]? =W.heap[bs]? /\W'.heap[bn]? =W.heap[bn]?
def aK(c k:Nat):List Nat:=(List.range k).map (·*c)
theorem fE(c k:Nat):aK c (k+1)=aK c k++[k*c]:=by simp[aK,List.range_succ]
theorem Bf(c k:Nat):(aK c k).length=k:=by simp[aK]
theorem TL(F:Fence)(n:Nat)(hF:F.fn 217)(hro:F.round=none)(hn:1<=n)(l bs os bn on:Nat)(a:Addr)(len cap c:Nat)(hc0:0<c)(hc1:c<=1000)(hlen:len<=1000000000000)(hcap:len<=cap)(J Jx:List Nat->World->Prop)(hJd:∀pre W,J pre W->J pre W.drew)
 (hY:∀pre x W,J pre W->pre.length<len->YieldAt F (n-1) Tryz.prog l #[w9 a len c x] W λe W'=>
   (e=.returned (.bool true)/\J (pre++[x]) W'/\pq bs bn W W')\/(e=.returned (.bool false)/\Jx (pre++[x]) W'))
 (W:World) (hs:W.cell? ⟨bs,os,none⟩=some (.slice (some a) len cap)) (hnn:W.cell? ⟨bn,on,none⟩=some (.int .i64 c)) (h0:J [] W):
 CallsIn F n Tryz.prog 217 #[.func (.yield l) #[] #[],.pointer (some ⟨bs,os,none⟩),.pointer (some ⟨bn,on,none⟩)] W λe W'=>(∃v,e=.returned v)/\
  ((∃k,len<=k*c/\(k=0\/(k-1)*c<len)/\J (aK c k) W')\/(∃k,Jx (aK c k) W')):=by
 refine callsIn_of_wp Tryz.func217 rfl hF ?_ hro
 simp only[Tryz.ntmps217,List.size_toArray,List.length_cons,List.length_nil,Nat.reduceAdd,Nat.reduceSub,Array.replicate_succ,Array.replicate_zero,List.push_toArray,List.append_toArray,List.nil_append,List.cons_append]
 gi_wp2
 gi_loopw [4] (λi wr=>∃k:Nat,(k=0\/(k-1)*c<len)/\i=.int .i64 ((k*c:Nat):Int)/\J (aK c k) wr/\pq bs bn W wr)
  (λi _=>len+1000-(intOf i).toNat)
 case atStart=>exact⟨0,.inl rfl,by simp,h0,rfl,rfl⟩
 case round=>
  obtain⟨k,hk,rfl,hJs,hk1,hk2⟩:=hrel
  have hs':wr.cell? ⟨bs,os,none⟩=some (.slice (some a) len cap):=by unfold World.cell? at hs⊢;rw[hk1];exact hs
  have hn':wr.cell? ⟨bn,on,none⟩=some (.int .i64 c):=by unfold World.cell? at hnn⊢;rw[hk2];exact hnn
  by_cases hlt:k*c<len
  ·obtain⟨fn,tmps,assign,body,hy,hR⟩:=hY _ (k*c) wr.drew (hJd _ _ hJs) (by rw[Bf];exact Nat.lt_of_le_of_lt (Nat.le_mul_of_pos_right k hc0) hlt)
   have hif:(if len-k*c<c then((len-k*c:Nat):Int) else(c:Int))=((min c (len-k*c):Nat):Int):=by split<;>omega
   unfold w9 at hy
   gi_wp2
   gi_region
   all_goals (try rw[hif])
   all_goals clear hif
   all_goals gi_wp2
   all_goals (
    refine hR.mono ?_
    rintro e W3 (⟨rfl,hJ3,hk3⟩|⟨rfl,hJx3⟩)
    ·have hn3:W3.cell? ⟨bn,on,none⟩=some (.int .i64 c):=by unfold World.cell? at hn'⊢;rw[hk3.2];exact hn'
     gi_wp2
     go_roundw
     case rel=>exact⟨k+1,.inr (by simpa using hlt),by simp[Nat.add_mul],by rw[fE];exact hJ3,hk3.1.trans hk1,hk3.2.trans hk2⟩
     case measure=>simp[intOf];omega
    ·gi_wp2
     refine bodyPost_ret (results_none rfl _ _ _) rfl ?_
     exact⟨⟨_,rfl⟩,.inr ⟨k+1,by rw[fE];exact hJx3⟩⟩)
  ·gi_wp2
   go_end0
   exact⟨⟨_,rfl⟩,.inl ⟨k,by omega,hk,hJs⟩⟩
theorem TM(F:Fence)(n:Nat)(hF:F.fn 217)(hro:F.round=none)(l bs os bn on:Nat)(a:Option Addr)(cap:Nat)(J:List Nat->World->Prop)
 (W:World) (hs:W.cell? ⟨bs,os,none⟩=some (.slice a 0 cap)) (h0:J [] W):
 CallsIn F n Tryz.prog 217 #[.func (.yield l) #[] #[],.pointer (some ⟨bs,os,none⟩),.pointer (some ⟨bn,on,none⟩)] W λe W'=>(∃v,e=.returned v)/\J [] W':=by
 refine callsIn_of_wp Tryz.func217 rfl hF ?_ hro
 simp only[Tryz.ntmps217,List.size_toArray,List.length_cons,List.length_nil,Nat.reduceAdd,Nat.reduceSub,Array.replicate_succ,Array.replicate_zero,List.push_toArray,List.append_toArray,List.nil_append,List.cons_append]
 gi_wp2
 gi_loopw [4] (λi wr=>i=.int .i64 0/\J [] wr/\wr.cell? ⟨bs,os,none⟩=some (.slice a 0 cap)) (λ_ _=>0)
 case atStart=>exact⟨rfl,h0,hs⟩
 case round=>
  obtain⟨rfl,hJs,hs'⟩:=hrel
  gi_wp2
  go_end0
  exact⟨⟨_,rfl⟩,hJs⟩
end
end Go.Proofs.YtonpfomjoiaacaaGreatDoor
end
