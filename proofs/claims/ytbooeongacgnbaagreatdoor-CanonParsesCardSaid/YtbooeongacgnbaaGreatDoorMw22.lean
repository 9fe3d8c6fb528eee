/- A part of the proof. -/
import Derived.Test.YtbooeongacgnbaaGreatDoorMw21
set_option maxRecDepth 100000
set_option maxHeartbeats 4000000
set_option linter.unusedSectionVars false
set_option linter.unusedVariables false
set_option linter.unusedSimpArgs false
section
namespace Go.Proofs.YtbooeongacgnbaaGreatDoor
open Go Go.gW Go.RowKit
theorem JR(s:ByteArray)(p d:Nat)(hs:s.size<=1000000)(hp:p<=s.size)(H:Hp):F Tryz.prog 68 [.agg (dZ s p d)] H (bn H (JO s d (eG s p))):=by
 have hf:∀(e:Int) H,F Tryz.prog 44 [.agg (dZ s p d),.v (.int .i64 e)] H (bn H (.agg (tq s p e d))):=λe H=>jJ s p d 0 e H
 have hz1:gU.size=4:=rfl
 have hz2:iH.size=4:=rfl
 have hz3:fI.size=5:=rfl
 refine aA (n:=61) (H0:=H) (M:=[]) Tryz.func68 (by kernel_rfl) U (by rw[Tryz.ntmps68];rfl) .nil<|?_
 refine Q.rg<|S.dd<|D.box U U U λp1=>S.dd<|D.al z72 U U U λp2=>S.dd<|D.al z27 U U U λp3=>Q.nt<|Q.rg<|S.qu (Z.bl iM U U (dx U))<|Q.as U<|Q.nt<|Q.rg<|S.qu (Z.bd [] dh U U U U U U)<|S.qu (Z.bd [0,1] dh U U U U U U)<|S.qu (Z.bd [0] dh U U U U U U)<|S.qu (Z.bl iw U U (dx U))<|Q.as U<|Q.nt<|S.sq<|Q.rg<|Q.as U<|Q.nt<|UW.block<|S.loop (λi:Nat=>[(6,.v (.int .i64 (i:Int))),(5,.sl [aN zeroV,aN (.mk 1 1 ⟨#[]⟩ [] []),aN (.mk 1 0 ⟨#[]⟩ [] [])]),(4,.sl [[.v (.string gU)],[.v (.string iH)],[.v (.string fI)]]),(3,.ptr p3 0),(2,.ptr p2 0),(1,.ptr p1 0)]) (λ_=>[(p3,.box 27 (aN zeroV)),(p2,.box 72 [.v (.string ⟨#[]⟩),.v (.int .i64 0),.v (.int .i64 0),.v (.int .i64 0)]),(p1,.box 72 (dZ s p d))]) (λi=>i<=3/\(0<i->preB s p gU=false)/\(1<i->preB s p iH=false)/\(2<i->preB s p fI=false)) (λi=>3-i) 0 ⟨by omega,by omega,by omega,by omega⟩ ⟨rfl,rfl,rfl,rfl,rfl,rfl,trivial⟩ (.refl _)<|?_
 rintro i ⟨hi,h1,h2,h3⟩
 rcases(show i=0\/i=1\/i=2\/i=3 by omega) with rfl|rfl|rfl|rfl
 ·cases hq:preB s p gU with
  |true=>
   have hr:eG s p=.ok (p+gU.size) (zeroV):=by unfold eG;rw[hq];rfl
   have hsz:p+gU.size<=s.size:=of_decide_eq_true (Bool.and_eq_true_iff.1 hq).1
   have hqe:(s.extract p (p+gU.size)).toList=gU.toList:=eq_of_beq (Bool.and_eq_true_iff.1 hq).2
   rw[hr]
   focus
    refine S.sq<|Q.rg<|Q.mv U<|Q.mv U<|S.qu (Z.iy bS U)<|Q.bi U U U<|Q.nt<|?_
    refine S.cD U (λhc16=>?_) (λhc16=>?_)
    rotate_left
    contradiction
    refine UW.skip<|UQ.then<|S.sq<|UW.block<|Q.rg<|Q.mv U<|Q.mv U<|S.qu (Z.ia bS U U (by omega) U (by rfl))<|?_
    refine S.qu (Z.lF fJ U)<|S.qu (Z.fC Tryz.underlying9 U)<|Q.as U<|Q.nt<|S.sq<|?_
    refine' UW.dC (by kernel_rfl) [0,1,0,7,0,16,48,127,255,511,1023,511,2559,511,8703,511,57855,131071,511,511,786943,1835519,4194303,8388607] [some 24,some 25,some 26,some 27,some 28,some 29,some 30,some 31,some 32,some 33,some 34,some 35,some 36,some 37,some 38,some 39,some 40,some 41,some 42,some 43,some 44,some 45,some 46,some 47] [some (24,_),some (25,_),some (26,_),some (27,_),some (28,_),some (29,_),some (30,_),some (31,_),some (32,_),some (33,_),some (34,_),some (35,_),some (36,_),some (37,_),some (38,_),some (39,_),some (40,_),some (41,_),some (42,_),some (43,_),some (44,_),some (45,_),some (46,_),some (47,_)] [] [1,5,10,12,14,21] U (by decide) (by decide) (I.free (by decide) U U ?gY (I.held (by decide) U U ?gZ (I.free (by decide) U U ?iK (I.free (by decide) U U ?mP (I.free (by decide) U U ?mQ (I.held (by decide) U U ?qc (I.free (by decide) U U ?qd (I.free (by decide) U U ?uD (I.free (by decide) U U ?uF (I.free (by decide) U U ?uG (I.held (by decide) U U ?qh (I.free (by decide) U U ?qi (I.held (by decide) U U ?Ex (I.free (by decide) U U ?Ey (I.held (by decide) U U ?Ez (I.free (by decide) U U ?EA (I.free (by decide) U U ?EB (I.free (by decide) U U ?EC (I.free (by decide) U U ?ED (I.free (by decide) U U ?EE (I.free (by decide) U U ?EF (I.held (by decide) U U ?EG (I.free (by decide) U U ?EH (I.free (by decide) U U ?Qw I.nil)))))))))))))))))))))))) ?oD
    case gY=>(intro _;exact Z.fa bB rfl)
    case gZ=>exact Z.dQ 2 bC rfl rfl rfl
    case iK=>(intro _;exact Z.mv rfl)
    case mP=>(intro _;exact Z.add (r:=((p+gU.size:Nat):Int)) rfl rfl (IntWalk.i64_in _ (by omega)))
    case mQ=>(intro _;exact Z.fa dO rfl)
    case qc=>exact Z.dQ 2 fJ rfl rfl rfl
    case qd=>(intro _;exact Z.fC Tryz.underlying9 rfl)
    case uD=>(intro _;exact Z.tT (Z.bi rfl rfl rfl) (decide_eq_true (by omega)))
    case uF=>(intro _;exact Z.mv rfl)
    case uG=>(intro _;exact Z.on (Z.fa dO rfl))
    case qh=>exact Z.on (Z.dQ 2 fJ rfl rfl rfl)
    case qi=>(intro _;exact Z.on (Z.fa bB rfl))
    case Ex=>exact Z.on (Z.dQ 2 bC rfl rfl rfl)
    case Ey=>(intro _;exact Z.on (Z.fa bB rfl))
    case Ez=>exact Z.on (Z.dQ 2 bC rfl rfl rfl)
    case EA=>(intro _;exact Z.on (Z.mv rfl))
    case EB=>(intro _;exact Z.on (Z.add (r:=((p+gU.size:Nat):Int)) rfl rfl (IntWalk.i64_in _ (by omega))))
    case EC=>(intro _;exact Z.on (Z.slt Tryz.underlying9 rfl (.both rfl rfl) (by omega) (by omega)))
    case ED=>(intro _;exact Z.on (Z.mv rfl))
    case EE=>(intro _;exact Z.on (Z.mv rfl))
    case EF=>(intro _;exact Z.on (Z.ia bS rfl rfl (by omega) rfl (by rfl)))
    case EG=>exact Z.on (Z.lF fJ rfl)
    case EH=>(intro _;exact Z.on (Z.tT (Z.bs rfl rfl rfl) (cZ (by omega))))
    case Qw=>(intro _;exact Z.pick rfl rfl)
    refine CH.nil<|?_
    simp only[app,bV]
    refine UQ.then<|S.cT U U<|Q.rg<|Q.fa bB U<|Q.lc 2 bC U U U<|Q.mv U<|S.qu (Z.add (r:=((p+gU.size:Nat):Int)) U U (IntWalk.i64_in _ (by omega)))<|Q.fa bB U<|S.s<|D.st 2 bC U U U U U U U U λ_=>Q.nt<|S.sq<|?_
    refine' UW.gF (by kernel_rfl) [] [0,0,0,6,14,1,63] [some 53,some 54,some 55,some 56,some 57,none,none] [some (53,_),some (54,_),some (55,_),some (56,_),some (57,_),none,none] [5,6] [0] U (by decide) (by decide) (I.held (by decide) U U ?U3 (I.free (by decide) U U ?U4 (I.free (by decide) U U ?U5 (I.free (by decide) U U ?U6 (I.kept (by decide) U U ?U7 (I.skip (I.skip I.nil))))))) ?Y0
    case U3=>exact Z.bg 2 aF rfl rfl rfl
    case U4=>(intro _;exact Z.mv rfl)
    case U5=>(intro _;exact Z.mv rfl)
    case U6=>(intro _;exact Z.ia bR rfl rfl (by omega) rfl (by rfl))
    case U7=>(intro _ hK;exact Z.Cn ay rfl rfl)
    refine CH.aV U U<|D.st 1 aF U U U U U U U U λ_=>CH.aV U U<|D.st 0 ay U U U U U U U U λ_=>CH.nil<|?_
    simp only[app,bV]
    refine UQ.then<|UW.ret<|UQ.az<|UQ.aj<|UQ.aj<|UQ.az<|UQ.aj<|S.bG (λhd=>ax U (av (k:=1) hd U U fM fO) (av (k:=0) hd U U bH bI))<|?_
    rfl
  |false=>
   have Xt:p+gU.size<=s.size->¬(s.extract p (p+gU.size)).toList=gU.toList:=λh1 h2=>by
    have:preB s p gU=true:=by unfold preB;rw[decide_eq_true h1,h2];exact beq_self_eq_true _
    rw[hq] at this;exact absurd this (by decide)
   by_cases hl:p+gU.size<=s.size
   ·have hqm:=Xt hl
    focus
     refine S.sq<|Q.rg<|Q.mv U<|Q.mv U<|S.qu (Z.iy bS U)<|Q.bi U U U<|Q.nt<|?_
     refine S.cD U (λhc16=>?_) (λhc16=>?_)
     rotate_left
     contradiction
     refine UW.skip<|UQ.then<|S.sq<|UW.block<|Q.rg<|Q.mv U<|Q.mv U<|S.qu (Z.ia bS U U (by omega) U (by rfl))<|?_
     refine S.qu (Z.lF fJ U)<|S.qu (Z.fC Tryz.underlying9 U)<|Q.as U<|Q.nt<|S.sq<|?_
     refine' UW.dC (by kernel_rfl) [0,1,0,7,0,16,48,127,255,511,1023,511,2559,511,8703,511,57855,131071,511,511,786943,1835519,4194303,8388607] [some 24,some 25,some 26,some 27,some 28,some 29,some 30,some 31,some 32,some 33,some 34,some 35,some 36,some 37,some 38,some 39,some 40,some 41,some 42,some 43,some 44,some 45,some 46,some 47] [some (24,_),some (25,_),some (26,_),some (27,_),some (28,_),some (29,_),some (30,_),some (31,_),some (32,_),some (33,_),some (34,_),some (35,_),some (36,_),some (37,_),some (38,_),some (39,_),some (40,_),some (41,_),some (42,_),some (43,_),some (44,_),some (45,_),some (46,_),some (47,_)] [] [1,5,10,12,14,21] U (by decide) (by decide) (I.free (by decide) U U ?fG (I.held (by decide) U U ?fH (I.free (by decide) U U ?iL (I.free (by decide) U U ?jF (I.free (by decide) U U ?jG (I.held (by decide) U U ?mV (I.free (by decide) U U ?mW (I.free (by decide) U U ?uI (I.free (by decide) U U ?uJ (I.free (by decide) U U ?uK (I.held (by decide) U U ?vW (I.free (by decide) U U ?vX (I.held (by decide) U U ?vY (I.free (by decide) U U ?vZ (I.held (by decide) U U ?wh (I.free (by decide) U U ?wm (I.free (by decide) U U ?wo (I.free (by decide) U U ?wu (I.free (by decide) U U ?wy (I.free (by decide) U U ?wz (I.free (by decide) U U ?EI (I.held (by decide) U U ?EJ (I.free (by decide) U U ?EK (I.free (by decide) U U ?Qx I.nil)))))))))))))))))))))))) ?lG
     case fG=>(intro _;exact Z.fa bB rfl)
     case fH=>exact Z.dQ 2 bC rfl rfl rfl
     case iL=>(intro _;exact Z.mv rfl)
     case jF=>(intro _;exact Z.add (r:=((p+gU.size:Nat):Int)) rfl rfl (IntWalk.i64_in _ (by omega)))
     case jG=>(intro _;exact Z.fa dO rfl)
     case mV=>exact Z.dQ 2 fJ rfl rfl rfl
     case mW=>(intro _;exact Z.fC Tryz.underlying9 rfl)
     case uI=>(intro _;exact Z.tT (Z.bi rfl rfl rfl) (decide_eq_true (by omega)))
     case uJ=>(intro _;exact Z.mv rfl)
     case uK=>(intro _;exact Z.on (Z.fa dO rfl))
     case vW=>exact Z.on (Z.dQ 2 fJ rfl rfl rfl)
     case vX=>(intro _;exact Z.on (Z.fa bB rfl))
     case vY=>exact Z.on (Z.dQ 2 bC rfl rfl rfl)
     case vZ=>(intro _;exact Z.on (Z.fa bB rfl))
     case wh=>exact Z.on (Z.dQ 2 bC rfl rfl rfl)
     case wm=>(intro _;exact Z.on (Z.mv rfl))
     case wo=>(intro _;exact Z.on (Z.add (r:=((p+gU.size:Nat):Int)) rfl rfl (IntWalk.i64_in _ (by omega))))
     case wu=>(intro _;exact Z.on (Z.slt Tryz.underlying9 rfl (.both rfl rfl) (by omega) (by omega)))
     case wy=>(intro _;exact Z.on (Z.mv rfl))
     case wz=>(intro _;exact Z.on (Z.mv rfl))
     case EI=>(intro _;exact Z.on (Z.ia bS rfl rfl (by omega) rfl (by rfl)))
     case EJ=>exact Z.on (Z.lF fJ rfl)
     case EK=>(intro _;exact Z.on (Z.tF (Z.bs rfl rfl rfl) (bf (by omega))))
     case Qx=>(intro _;exact Z.pick rfl rfl)
     refine CH.nil<|?_
     simp only[app,bV]
     refine UQ.then<|S.cF U U<|UW.skip<|UQ.aI<|UQ.then<|S.rg<|Q.mv U<|S.qu (Z.add (r:=((1:Nat):Int)) U U (IntWalk.i64_in _ (by omega)))<|Q.as U<|US.nil<|?_
     refine S.back 1 ⟨rfl,rfl,rfl,rfl,rfl,rfl,trivial⟩ (.refl _) ?_ (by omega)
    exact⟨by decide,λ_=>by trivial,λh=>absurd h (by decide),λh=>absurd h (by decide)⟩
   ·skip
    focus
     refine S.sq<|Q.rg<|Q.mv U<|Q.mv U<|S.qu (Z.iy bS U)<|Q.bi U U U<|Q.nt<|?_
     refine S.cD U (λhc16=>?_) (λhc16=>?_)
     rotate_left
     contradiction
     refine UW.skip<|UQ.then<|S.sq<|UW.block<|Q.rg<|Q.mv U<|Q.mv U<|S.qu (Z.ia bS U U (by omega) U (by rfl))<|?_
     refine S.qu (Z.lF fJ U)<|S.qu (Z.fC Tryz.underlying9 U)<|Q.as U<|Q.nt<|S.sq<|?_
     refine' UW.dC (by kernel_rfl) [0,1,0,7,0,16,48,127,255,511,1023,511,2559,511,8703,511,57855,131071,511,511,786943,1835519,4194303,8388607] [some 24,some 25,some 26,some 27,some 28,some 29,some 30,some 31,some 32,some 33,some 34,some 35,some 36,some 37,some 38,some 39,some 40,some 41,some 42,some 43,some 44,some 45,some 46,some 47] [some (24,_),some (25,_),some (26,_),some (27,_),some (28,_),some (29,_),some (30,_),some (31,_),some (32,_),some (33,_),some (34,_),some (35,_),some (36,_),some (37,_),some (38,_),some (39,_),some (40,_),some (41,_),some (42,_),some (43,_),some (44,_),some (45,_),some (46,_),some (47,_)] [] [1,5,10,12,14,21] U (by decide) (by decide) (I.free (by decide) U U ?ic (I.held (by decide) U U ?ig (I.free (by decide) U U ?mX (I.free (by decide) U U ?qj (I.free (by decide) U U ?ql (I.held (by decide) U U ?uL (I.free (by decide) U U ?uM (I.free (by decide) U U ?uO (I.free (by decide) U U ?uP (I.free (by decide) U U ?uQ (I.held (by decide) U U ?qm (I.free (by decide) U U ?wB (I.held (by decide) U U ?wC (I.free (by decide) U U ?wD (I.held (by decide) U U ?wE (I.free (by decide) U U ?wF (I.free (by decide) U U ?wG (I.free (by decide) U U ?wH (I.free (by decide) U U ?wI (I.free (by decide) U U ?wJ (I.free (by decide) U U ?wK (I.held (by decide) U U ?wL (I.free (by decide) U U ?wM (I.free (by decide) U U ?Fb I.nil)))))))))))))))))))))))) ?oF
     case ic=>(intro _;exact Z.fa bB rfl)
     case ig=>exact Z.dQ 2 bC rfl rfl rfl
     case mX=>(intro _;exact Z.mv rfl)
     case qj=>(intro _;exact Z.add (r:=((p+gU.size:Nat):Int)) rfl rfl (IntWalk.i64_in _ (by omega)))
     case ql=>(intro _;exact Z.fa dO rfl)
     case uL=>exact Z.dQ 2 fJ rfl rfl rfl
     case uM=>(intro _;exact Z.fC Tryz.underlying9 rfl)
     case uO=>(intro _;exact Z.tF (Z.bi rfl rfl rfl) (decide_eq_false (by omega)))
     case uP=>(intro _;exact Z.mv rfl)
     case uQ=>(intro _;exact Z.of)
     case qm=>exact Z.of
     case wB=>(intro _;exact Z.of)
     case wC=>exact Z.of
     case wD=>(intro _;exact Z.of)
     case wE=>exact Z.of
     case wF=>(intro _;exact Z.of)
     case wG=>(intro _;exact Z.of)
     case wH=>(intro _;exact Z.of)
     case wI=>(intro _;exact Z.of)
     case wJ=>(intro _;exact Z.of)
     case wK=>(intro _;exact Z.of)
     case wL=>exact Z.of
     case wM=>(intro _;exact Z.of)
     case Fb=>(intro _;exact Z.pick rfl rfl)
     refine CH.nil<|?_
     simp only[app,bV]
     refine UQ.then<|S.cF U U<|UW.skip<|UQ.aI<|UQ.then<|S.rg<|Q.mv U<|S.qu (Z.add (r:=((1:Nat):Int)) U U (IntWalk.i64_in _ (by omega)))<|Q.as U<|US.nil<|?_
     refine S.back 1 ⟨rfl,rfl,rfl,rfl,rfl,rfl,trivial⟩ (.refl _) ?_ (by omega)
    exact⟨by decide,λ_=>by trivial,λh=>absurd h (by decide),λh=>absurd h (by decide)⟩
 ·cases hq:preB s p iH with
  |true=>
   have hr:eG s p=.ok (p+iH.size) (.mk 1 1 ⟨#[]⟩ [] []):=by unfold eG;rw[h1 (by decide)];rw[hq];rfl
   have hsz:p+iH.size<=s.size:=of_decide_eq_true (Bool.and_eq_true_iff.1 hq).1
   have hqe:(s.extract p (p+iH.size)).toList=iH.toList:=eq_of_beq (Bool.and_eq_true_iff.1 hq).2
   rw[hr]
   focus
    refine S.sq<|Q.rg<|Q.mv U<|Q.mv U<|S.qu (Z.iy bS U)<|Q.bi U U U<|Q.nt<|?_
    refine S.cD U (λhc16=>?_) (λhc16=>?_)
    rotate_left
    contradiction
    refine UW.skip<|UQ.then<|S.sq<|UW.block<|Q.rg<|Q.mv U<|Q.mv U<|S.qu (Z.ia bS U U (by omega) U (by rfl))<|?_
    refine S.qu (Z.lF fJ U)<|S.qu (Z.fC Tryz.underlying9 U)<|Q.as U<|Q.nt<|S.sq<|?_
    refine' UW.dC (by kernel_rfl) [0,1,0,7,0,16,48,127,255,511,1023,511,2559,511,8703,511,57855,131071,511,511,786943,1835519,4194303,8388607] [some 24,some 25,some 26,some 27,some 28,some 29,some 30,some 31,some 32,some 33,some 34,some 35,some 36,some 37,some 38,some 39,some 40,some 41,some 42,some 43,some 44,some 45,some 46,some 47] [some (24,_),some (25,_),some (26,_),some (27,_),some (28,_),some (29,_),some (30,_),some (31,_),some (32,_),some (33,_),some (34,_),some (35,_),some (36,_),some (37,_),some (38,_),some (39,_),some (40,_),some (41,_),some (42,_),some (43,_),some (44,_),some (45,_),some (46,_),some (47,_)] [] [1,5,10,12,14,21] U (by decide) (by decide) (I.free (by decide) U U ?kE (I.held (by decide) U U ?kF (I.free (by decide) U U ?mJ (I.free (by decide) U U ?mK (I.free (by decide) U U ?qo (I.held (by decide) U U ?pQ (I.free (by decide) U U ?pU (I.free (by decide) U U ?pV (I.free (by decide) U U ?ug (I.free (by decide) U U ?uh (I.held (by decide) U U ?wN (I.free (by decide) U U ?wO (I.held (by decide) U U ?wP (I.free (by decide) U U ?wQ (I.held (by decide) U U ?wR (I.free (by decide) U U ?wS (I.free (by decide) U U ?wT (I.free (by decide) U U ?wU (I.free (by decide) U U ?wV (I.free (by decide) U U ?wW (I.free (by decide) U U ?EL (I.held (by decide) U U ?EM (I.free (by decide) U U ?EN (I.free (by decide) U U ?Qy I.nil)))))))))))))))))))))))) ?xY
    case kE=>(intro _;exact Z.fa bB rfl)
    case kF=>exact Z.dQ 2 bC rfl rfl rfl
    case mJ=>(intro _;exact Z.mv rfl)
    case mK=>(intro _;exact Z.add (r:=((p+iH.size:Nat):Int)) rfl rfl (IntWalk.i64_in _ (by omega)))
    case qo=>(intro _;exact Z.fa dO rfl)
    case pQ=>exact Z.dQ 2 fJ rfl rfl rfl
    case pU=>(intro _;exact Z.fC Tryz.underlying9 rfl)
    case pV=>(intro _;exact Z.tT (Z.bi rfl rfl rfl) (decide_eq_true (by omega)))
    case ug=>(intro _;exact Z.mv rfl)
    case uh=>(intro _;exact Z.on (Z.fa dO rfl))
    case wN=>exact Z.on (Z.dQ 2 fJ rfl rfl rfl)
    case wO=>(intro _;exact Z.on (Z.fa bB rfl))
    case wP=>exact Z.on (Z.dQ 2 bC rfl rfl rfl)
    case wQ=>(intro _;exact Z.on (Z.fa bB rfl))
    case wR=>exact Z.on (Z.dQ 2 bC rfl rfl rfl)
    case wS=>(intro _;exact Z.on (Z.mv rfl))
    case wT=>(intro _;exact Z.on (Z.add (r:=((p+iH.size:Nat):Int)) rfl rfl (IntWalk.i64_in _ (by omega))))
    case wU=>(intro _;exact Z.on (Z.slt Tryz.underlying9 rfl (.both rfl rfl) (by omega) (by omega)))
    case wV=>(intro _;exact Z.on (Z.mv rfl))
    case wW=>(intro _;exact Z.on (Z.mv rfl))
    case EL=>(intro _;exact Z.on (Z.ia bS rfl rfl (by omega) rfl (by rfl)))
    case EM=>exact Z.on (Z.lF fJ rfl)
    case EN=>(intro _;exact Z.on (Z.tT (Z.bs rfl rfl rfl) (cZ (by omega))))
    case Qy=>(intro _;exact Z.pick rfl rfl)
    refine CH.nil<|?_
    simp only[app,bV]
    refine UQ.then<|S.cT U U<|Q.rg<|Q.fa bB U<|Q.lc 2 bC U U U<|Q.mv U<|S.qu (Z.add (r:=((p+iH.size:Nat):Int)) U U (IntWalk.i64_in _ (by omega)))<|Q.fa bB U<|S.s<|D.st 2 bC U U U U U U U U λ_=>Q.nt<|S.sq<|?_
    refine' UW.gF (by kernel_rfl) [] [0,0,0,6,14,1,63] [some 53,some 54,some 55,some 56,some 57,none,none] [some (53,_),some (54,_),some (55,_),some (56,_),some (57,_),none,none] [5,6] [0] U (by decide) (by decide) (I.held (by decide) U U ?U8 (I.free (by decide) U U ?U9 (I.free (by decide) U U ?Va (I.free (by decide) U U ?Vb (I.kept (by decide) U U ?Vd (I.skip (I.skip I.nil))))))) ?Y1
    case U8=>exact Z.bg 2 aF rfl rfl rfl
    case U9=>(intro _;exact Z.mv rfl)
    case Va=>(intro _;exact Z.mv rfl)
    case Vb=>(intro _;exact Z.ia bR rfl rfl (by omega) rfl (by rfl))
    case Vd=>(intro _ hK;exact Z.Cn ay rfl rfl)
    refine CH.aV U U<|D.st 1 aF U U U U U U U U λ_=>CH.aV U U<|D.st 0 ay U U U U U U U U λ_=>CH.nil<|?_
    simp only[app,bV]
    refine UQ.then<|UW.ret<|UQ.az<|UQ.aj<|UQ.aj<|UQ.az<|UQ.aj<|S.bG (λhd=>ax U (av (k:=1) hd U U fM fO) (av (k:=0) hd U U bH bI))<|?_
    rfl
  |false=>
   have Xt:p+iH.size<=s.size->¬(s.extract p (p+iH.size)).toList=iH.toList:=λh1 h2=>by
    have:preB s p iH=true:=by unfold preB;rw[decide_eq_true h1,h2];exact beq_self_eq_true _
    rw[hq] at this;exact absurd this (by decide)
   by_cases hl:p+iH.size<=s.size
   ·have hqm:=Xt hl
    focus
     refine S.sq<|Q.rg<|Q.mv U<|Q.mv U<|S.qu (Z.iy bS U)<|Q.bi U U U<|Q.nt<|?_
     refine S.cD U (λhc16=>?_) (λhc16=>?_)
     rotate_left
     contradiction
     refine UW.skip<|UQ.then<|S.sq<|UW.block<|Q.rg<|Q.mv U<|Q.mv U<|S.qu (Z.ia bS U U (by omega) U (by rfl))<|?_
     refine S.qu (Z.lF fJ U)<|S.qu (Z.fC Tryz.underlying9 U)<|Q.as U<|Q.nt<|S.sq<|?_
     refine' UW.dC (by kernel_rfl) [0,1,0,7,0,16,48,127,255,511,1023,511,2559,511,8703,511,57855,131071,511,511,786943,1835519,4194303,8388607] [some 24,some 25,some 26,some 27,some 28,some 29,some 30,some 31,some 32,some 33,some 34,some 35,some 36,some 37,some 38,some 39,some 40,some 41,some 42,some 43,some 44,some 45,some 46,some 47] [some (24,_),some (25,_),some (26,_),some (27,_),some (28,_),some (29,_),some (30,_),some (31,_),some (32,_),some (33,_),some (34,_),some (35,_),some (36,_),some (37,_),some (38,_),some (39,_),some (40,_),some (41,_),some (42,_),some (43,_),some (44,_),some (45,_),some (46,_),some (47,_)] [] [1,5,10,12,14,21] U (by decide) (by decide) (I.free (by decide) U U ?uX (I.held (by decide) U U ?uY (I.free (by decide) U U ?AY (I.free (by decide) U U ?AZ (I.free (by decide) U U ?A7 (I.held (by decide) U U ?JS (I.free (by decide) U U ?JU (I.free (by decide) U U ?JV (I.free (by decide) U U ?JW (I.free (by decide) U U ?JX (I.held (by decide) U U ?Fe (I.free (by decide) U U ?Ff (I.held (by decide) U U ?Qz (I.free (by decide) U U ?QA (I.held (by decide) U U ?QB (I.free (by decide) U U ?QC (I.free (by decide) U U ?QD (I.free (by decide) U U ?QE (I.free (by decide) U U ?QG (I.free (by decide) U U ?QH (I.free (by decide) U U ?QI (I.held (by decide) U U ?QJ (I.free (by decide) U U ?QL (I.free (by decide) U U ?QM I.nil)))))))))))))))))))))))) ?JY
     case uX=>(intro _;exact Z.fa bB rfl)
     case uY=>exact Z.dQ 2 bC rfl rfl rfl
     case AY=>(intro _;exact Z.mv rfl)
     case AZ=>(intro _;exact Z.add (r:=((p+iH.size:Nat):Int)) rfl rfl (IntWalk.i64_in _ (by omega)))
     case A7=>(intro _;exact Z.fa dO rfl)
     case JS=>exact Z.dQ 2 fJ rfl rfl rfl
     case JU=>(intro _;exact Z.fC Tryz.underlying9 rfl)
     case JV=>(intro _;exact Z.tT (Z.bi rfl rfl rfl) (decide_eq_true (by omega)))
     case JW=>(intro _;exact Z.mv rfl)
     case JX=>(intro _;exact Z.on (Z.fa dO rfl))
     case Fe=>exact Z.on (Z.dQ 2 fJ rfl rfl rfl)
     case Ff=>(intro _;exact Z.on (Z.fa bB rfl))
     case Qz=>exact Z.on (Z.dQ 2 bC rfl rfl rfl)
     case QA=>(intro _;exact Z.on (Z.fa bB rfl))
     case QB=>exact Z.on (Z.dQ 2 bC rfl rfl rfl)
     case QC=>(intro _;exact Z.on (Z.mv rfl))
     case QD=>(intro _;exact Z.on (Z.add (r:=((p+iH.size:Nat):Int)) rfl rfl (IntWalk.i64_in _ (by omega))))
     case QE=>(intro _;exact Z.on (Z.slt Tryz.underlying9 rfl (.both rfl rfl) (by omega) (by omega)))
     case QG=>(intro _;exact Z.on (Z.mv rfl))
     case QH=>(intro _;exact Z.on (Z.mv rfl))
     case QI=>(intro _;exact Z.on (Z.ia bS rfl rfl (by omega) rfl (by rfl)))
     case QJ=>exact Z.on (Z.lF fJ rfl)
     case QL=>(intro _;exact Z.on (Z.tF (Z.bs rfl rfl rfl) (bf (by omega))))
     case QM=>(intro _;exact Z.pick rfl rfl)
     refine CH.nil<|?_
     simp only[app,bV]
     refine UQ.then<|S.cF U U<|UW.skip<|UQ.aI<|UQ.then<|S.rg<|Q.mv U<|S.qu (Z.add (r:=((2:Nat):Int)) U U (IntWalk.i64_in _ (by omega)))<|Q.as U<|US.nil<|?_
     refine S.back 2 ⟨rfl,rfl,rfl,rfl,rfl,rfl,trivial⟩ (.refl _) ?_ (by omega)
    exact⟨by decide,λ_=>h1 (by decide),λ_=>by trivial,λh=>absurd h (by decide)⟩
   ·skip
    focus
     refine S.sq<|Q.rg<|Q.mv U<|Q.mv U<|S.qu (Z.iy bS U)<|Q.bi U U U<|Q.nt<|?_
     refine S.cD U (λhc16=>?_) (λhc16=>?_)
     rotate_left
     contradiction
     refine UW.skip<|UQ.then<|S.sq<|UW.block<|Q.rg<|Q.mv U<|Q.mv U<|S.qu (Z.ia bS U U (by omega) U (by rfl))<|?_
     refine S.qu (Z.lF fJ U)<|S.qu (Z.fC Tryz.underlying9 U)<|Q.as U<|Q.nt<|S.sq<|?_
     refine' UW.dC (by kernel_rfl) [0,1,0,7,0,16,48,127,255,511,1023,511,2559,511,8703,511,57855,131071,511,511,786943,1835519,4194303,8388607] [some 24,some 25,some 26,some 27,some 28,some 29,some 30,some 31,some 32,some 33,some 34,some 35,some 36,some 37,some 38,some 39,some 40,some 41,some 42,some 43,some 44,some 45,some 46,some 47] [some (24,_),some (25,_),some (26,_),some (27,_),some (28,_),some (29,_),some (30,_),some (31,_),some (32,_),some (33,_),some (34,_),some (35,_),some (36,_),some (37,_),some (38,_),some (39,_),some (40,_),some (41,_),some (42,_),some (43,_),some (44,_),some (45,_),some (46,_),some (47,_)] [] [1,5,10,12,14,21] U (by decide) (by decide) (I.free (by decide) U U ?jH (I.held (by decide) U U ?jI (I.free (by decide) U U ?qf (I.free (by decide) U U ?uu (I.free (by decide) U U ?uw (I.held (by decide) U U ?uy (I.free (by decide) U U ?uz (I.free (by decide) U U ?uA (I.free (by decide) U U ?uB (I.free (by decide) U U ?Ar (I.held (by decide) U U ?vU (I.free (by decide) U U ?vV (I.held (by decide) U U ?Fg (I.free (by decide) U U ?Fh (I.held (by decide) U U ?Fj (I.free (by decide) U U ?Fp (I.free (by decide) U U ?Fq (I.free (by decide) U U ?Fs (I.free (by decide) U U ?Fu (I.free (by decide) U U ?Fv (I.free (by decide) U U ?QN (I.held (by decide) U U ?QO (I.free (by decide) U U ?QP (I.free (by decide) U U ?QQ I.nil)))))))))))))))))))))))) ?uC
     case jH=>(intro _;exact Z.fa bB rfl)
     case jI=>exact Z.dQ 2 bC rfl rfl rfl
     case qf=>(intro _;exact Z.mv rfl)
     case uu=>(intro _;exact Z.add (r:=((p+iH.size:Nat):Int)) rfl rfl (IntWalk.i64_in _ (by omega)))
     case uw=>(intro _;exact Z.fa dO rfl)
     case uy=>exact Z.dQ 2 fJ rfl rfl rfl
     case uz=>(intro _;exact Z.fC Tryz.underlying9 rfl)
     case uA=>(intro _;exact Z.tF (Z.bi rfl rfl rfl) (decide_eq_false (by omega)))
     case uB=>(intro _;exact Z.mv rfl)
     case Ar=>(intro _;exact Z.of)
     case vU=>exact Z.of
     case vV=>(intro _;exact Z.of)
     case Fg=>exact Z.of
     case Fh=>(intro _;exact Z.of)
     case Fj=>exact Z.of
     case Fp=>(intro _;exact Z.of)
     case Fq=>(intro _;exact Z.of)
     case Fs=>(intro _;exact Z.of)
     case Fu=>(intro _;exact Z.of)
     case Fv=>(intro _;exact Z.of)
     case QN=>(intro _;exact Z.of)
     case QO=>exact Z.of
     case QP=>(intro _;exact Z.of)
     case QQ=>(intro _;exact Z.pick rfl rfl)
     refine CH.nil<|?_
     simp only[app,bV]
     refine UQ.then<|S.cF U U<|UW.skip<|UQ.aI<|UQ.then<|S.rg<|Q.mv U<|S.qu (Z.add (r:=((2:Nat):Int)) U U (IntWalk.i64_in _ (by omega)))<|Q.as U<|US.nil<|?_
     refine S.back 2 ⟨rfl,rfl,rfl,rfl,rfl,rfl,trivial⟩ (.refl _) ?_ (by omega)
    exact⟨by decide,λ_=>h1 (by decide),λ_=>by trivial,λh=>absurd h (by decide)⟩
 ·cases hq:preB s p fI with
  |true=>
   have hr:eG s p=.ok (p+fI.size) (.mk 1 0 ⟨#[]⟩ [] []):=by unfold eG;rw[h1 (by decide),h2 (by decide)];rw[hq];rfl
   have hsz:p+fI.size<=s.size:=of_decide_eq_true (Bool.and_eq_true_iff.1 hq).1
   have hqe:(s.extract p (p+fI.size)).toList=fI.toList:=eq_of_beq (Bool.and_eq_true_iff.1 hq).2
   rw[hr]
   focus
    refine S.sq<|Q.rg<|Q.mv U<|Q.mv U<|S.qu (Z.iy bS U)<|Q.bi U U U<|Q.nt<|?_
    refine S.cD U (λhc16=>?_) (λhc16=>?_)
    rotate_left
    contradiction
    refine UW.skip<|UQ.then<|S.sq<|UW.block<|Q.rg<|Q.mv U<|Q.mv U<|S.qu (Z.ia bS U U (by omega) U (by rfl))<|?_
    refine S.qu (Z.lF fJ U)<|S.qu (Z.fC Tryz.underlying9 U)<|Q.as U<|Q.nt<|S.sq<|?_
    refine' UW.dC (by kernel_rfl) [0,1,0,7,0,16,48,127,255,511,1023,511,2559,511,8703,511,57855,131071,511,511,786943,1835519,4194303,8388607] [some 24,some 25,some 26,some 27,some 28,some 29,some 30,some 31,some 32,some 33,some 34,some 35,some 36,some 37,some 38,some 39,some 40,some 41,some 42,some 43,some 44,some 45,some 46,some 47] [some (24,_),some (25,_),some (26,_),some (27,_),some (28,_),some (29,_),some (30,_),some (31,_),some (32,_),some (33,_),some (34,_),some (35,_),some (36,_),some (37,_),some (38,_),some (39,_),some (40,_),some (41,_),some (42,_),some (43,_),some (44,_),some (45,_),some (46,_),some (47,_)] [] [1,5,10,12,14,21] U (by decide) (by decide) (I.free (by decide) U U ?AU (I.held (by decide) U U ?AX (I.free (by decide) U U ?JQ (I.free (by decide) U U ?Ve (I.free (by decide) U U ?Vf (I.held (by decide) U U ?Vg (I.free (by decide) U U ?Vh (I.free (by decide) U U ?Vi (I.free (by decide) U U ?Vj (I.free (by decide) U U ?Vk (I.held (by decide) U U ?QR (I.free (by decide) U U ?QT (I.held (by decide) U U ?QU (I.free (by decide) U U ?QV (I.held (by decide) U U ?QW (I.free (by decide) U U ?QX (I.free (by decide) U U ?QY (I.free (by decide) U U ?QZ (I.free (by decide) U U ?Q0 (I.free (by decide) U U ?Q3 (I.free (by decide) U U ?Q4 (I.held (by decide) U U ?Q5 (I.free (by decide) U U ?Q6 (I.free (by decide) U U ?Q7 I.nil)))))))))))))))))))))))) ?Ox
    case AU=>(intro _;exact Z.fa bB rfl)
    case AX=>exact Z.dQ 2 bC rfl rfl rfl
    case JQ=>(intro _;exact Z.mv rfl)
    case Ve=>(intro _;exact Z.add (r:=((p+fI.size:Nat):Int)) rfl rfl (IntWalk.i64_in _ (by omega)))
    case Vf=>(intro _;exact Z.fa dO rfl)
    case Vg=>exact Z.dQ 2 fJ rfl rfl rfl
    case Vh=>(intro _;exact Z.fC Tryz.underlying9 rfl)
    case Vi=>(intro _;exact Z.tT (Z.bi rfl rfl rfl) (decide_eq_true (by omega)))
    case Vj=>(intro _;exact Z.mv rfl)
    case Vk=>(intro _;exact Z.on (Z.fa dO rfl))
    case QR=>exact Z.on (Z.dQ 2 fJ rfl rfl rfl)
    case QT=>(intro _;exact Z.on (Z.fa bB rfl))
    case QU=>exact Z.on (Z.dQ 2 bC rfl rfl rfl)
    case QV=>(intro _;exact Z.on (Z.fa bB rfl))
    case QW=>exact Z.on (Z.dQ 2 bC rfl rfl rfl)
    case QX=>(intro _;exact Z.on (Z.mv rfl))
    case QY=>(intro _;exact Z.on (Z.add (r:=((p+fI.size:Nat):Int)) rfl rfl (IntWalk.i64_in _ (by omega))))
    case QZ=>(intro _;exact Z.on (Z.slt Tryz.underlying9 rfl (.both rfl rfl) (by omega) (by omega)))
    case Q0=>(intro _;exact Z.on (Z.mv rfl))
    case Q3=>(intro _;exact Z.on (Z.mv rfl))
    case Q4=>(intro _;exact Z.on (Z.ia bS rfl rfl (by omega) rfl (by rfl)))
    case Q5=>exact Z.on (Z.lF fJ rfl)
    case Q6=>(intro _;exact Z.on (Z.tT (Z.bs rfl rfl rfl) (cZ (by omega))))
    case Q7=>(intro _;exact Z.pick rfl rfl)
    refine CH.nil<|?_
    simp only[app,bV]
    refine UQ.then<|S.cT U U<|Q.rg<|Q.fa bB U<|Q.lc 2 bC U U U<|Q.mv U<|S.qu (Z.add (r:=((p+fI.size:Nat):Int)) U U (IntWalk.i64_in _ (by omega)))<|Q.fa bB U<|S.s<|D.st 2 bC U U U U U U U U λ_=>Q.nt<|S.sq<|?_
    refine' UW.gF (by kernel_rfl) [] [0,0,0,6,14,1,63] [some 53,some 54,some 55,some 56,some 57,none,none] [some (53,_),some (54,_),some (55,_),some (56,_),some (57,_),none,none] [5,6] [0] U (by decide) (by decide) (I.held (by decide) U U ?Vl (I.free (by decide) U U ?Vm (I.free (by decide) U U ?Vn (I.free (by decide) U U ?Vo (I.kept (by decide) U U ?Vp (I.skip (I.skip I.nil))))))) ?Y2
    case Vl=>exact Z.bg 2 aF rfl rfl rfl
    case Vm=>(intro _;exact Z.mv rfl)
    case Vn=>(intro _;exact Z.mv rfl)
    case Vo=>(intro _;exact Z.ia bR rfl rfl (by omega) rfl (by rfl))
    case Vp=>(intro _ hK;exact Z.Cn ay rfl rfl)
    refine CH.aV U U<|D.st 1 aF U U U U U U U U λ_=>CH.aV U U<|D.st 0 ay U U U U U U U U λ_=>CH.nil<|?_
    simp only[app,bV]
    refine UQ.then<|UW.ret<|UQ.az<|UQ.aj<|UQ.aj<|UQ.az<|UQ.aj<|S.bG (λhd=>ax U (av (k:=1) hd U U fM fO) (av (k:=0) hd U U bH bI))<|?_
    rfl
  |false=>
   have Xt:p+fI.size<=s.size->¬(s.extract p (p+fI.size)).toList=fI.toList:=λh1 h2=>by
    have:preB s p fI=true:=by unfold preB;rw[decide_eq_true h1,h2];exact beq_self_eq_true _
    rw[hq] at this;exact absurd this (by decide)
   by_cases hl:p+fI.size<=s.size
   ·have hqm:=Xt hl
    focus
     refine S.sq<|Q.rg<|Q.mv U<|Q.mv U<|S.qu (Z.iy bS U)<|Q.bi U U U<|Q.nt<|?_
     refine S.cD U (λhc16=>?_) (λhc16=>?_)
     rotate_left
     contradiction
     refine UW.skip<|UQ.then<|S.sq<|UW.block<|Q.rg<|Q.mv U<|Q.mv U<|S.qu (Z.ia bS U U (by omega) U (by rfl))<|?_
     refine S.qu (Z.lF fJ U)<|S.qu (Z.fC Tryz.underlying9 U)<|Q.as U<|Q.nt<|S.sq<|?_
     refine' UW.dC (by kernel_rfl) [0,1,0,7,0,16,48,127,255,511,1023,511,2559,511,8703,511,57855,131071,511,511,786943,1835519,4194303,8388607] [some 24,some 25,some 26,some 27,some 28,some 29,some 30,some 31,some 32,some 33,some 34,some 35,some 36,some 37,some 38,some 39,some 40,some 41,some 42,some 43,some 44,some 45,some 46,some 47] [some (24,_),some (25,_),some (26,_),some (27,_),some (28,_),some (29,_),some (30,_),some (31,_),some (32,_),some (33,_),some (34,_),some (35,_),some (36,_),some (37,_),some (38,_),some (39,_),some (40,_),some (41,_),some (42,_),some (43,_),some (44,_),some (45,_),some (46,_),some (47,_)] [] [1,5,10,12,14,21] U (by decide) (by decide) (I.free (by decide) U U ?Vq (I.held (by decide) U U ?Vr (I.free (by decide) U U ?Vs (I.free (by decide) U U ?Vt (I.free (by decide) U U ?Vu (I.held (by decide) U U ?Vv (I.free (by decide) U U ?Vw (I.free (by decide) U U ?Vx (I.free (by decide) U U ?Vy (I.free (by decide) U U ?Vz (I.held (by decide) U U ?Q8 (I.free (by decide) U U ?Q9 (I.held (by decide) U U ?Ra (I.free (by decide) U U ?Rb (I.held (by decide) U U ?Rc (I.free (by decide) U U ?Re (I.free (by decide) U U ?Rf (I.free (by decide) U U ?Rh (I.free (by decide) U U ?Ri (I.free (by decide) U U ?Rj (I.free (by decide) U U ?Rk (I.held (by decide) U U ?Rl (I.free (by decide) U U ?Rm (I.free (by decide) U U ?Rn I.nil)))))))))))))))))))))))) ?Y3
     case Vq=>(intro _;exact Z.fa bB rfl)
     case Vr=>exact Z.dQ 2 bC rfl rfl rfl
     case Vs=>(intro _;exact Z.mv rfl)
     case Vt=>(intro _;exact Z.add (r:=((p+fI.size:Nat):Int)) rfl rfl (IntWalk.i64_in _ (by omega)))
     case Vu=>(intro _;exact Z.fa dO rfl)
     case Vv=>exact Z.dQ 2 fJ rfl rfl rfl
     case Vw=>(intro _;exact Z.fC Tryz.underlying9 rfl)
     case Vx=>(intro _;exact Z.tT (Z.bi rfl rfl rfl) (decide_eq_true (by omega)))
     case Vy=>(intro _;exact Z.mv rfl)
     case Vz=>(intro _;exact Z.on (Z.fa dO rfl))
     case Q8=>exact Z.on (Z.dQ 2 fJ rfl rfl rfl)
     case Q9=>(intro _;exact Z.on (Z.fa bB rfl))
     case Ra=>exact Z.on (Z.dQ 2 bC rfl rfl rfl)
     case Rb=>(intro _;exact Z.on (Z.fa bB rfl))
     case Rc=>exact Z.on (Z.dQ 2 bC rfl rfl rfl)
     case Re=>(intro _;exact Z.on (Z.mv rfl))
     case Rf=>(intro _;exact Z.on (Z.add (r:=((p+fI.size:Nat):Int)) rfl rfl (IntWalk.i64_in _ (by omega))))
     case Rh=>(intro _;exact Z.on (Z.slt Tryz.underlying9 rfl (.both rfl rfl) (by omega) (by omega)))
     case Ri=>(intro _;exact Z.on (Z.mv rfl))
     case Rj=>(intro _;exact Z.on (Z.mv rfl))
     case Rk=>(intro _;exact Z.on (Z.ia bS rfl rfl (by omega) rfl (by rfl)))
     case Rl=>exact Z.on (Z.lF fJ rfl)
     case Rm=>(intro _;exact Z.on (Z.tF (Z.bs rfl rfl rfl) (bf (by omega))))
     case Rn=>(intro _;exact Z.pick rfl rfl)
     refine CH.nil<|?_
     simp only[app,bV]
     refine UQ.then<|S.cF U U<|UW.skip<|UQ.aI<|UQ.then<|S.rg<|Q.mv U<|S.qu (Z.add (r:=((3:Nat):Int)) U U (IntWalk.i64_in _ (by omega)))<|Q.as U<|US.nil<|?_
     refine S.back 3 ⟨rfl,rfl,rfl,rfl,rfl,rfl,trivial⟩ (.refl _) ?_ (by omega)
    exact⟨by decide,λ_=>h1 (by decide),λ_=>h2 (by decide),λ_=>by trivial⟩
   ·skip
    focus
     refine S.sq<|Q.rg<|Q.mv U<|Q.mv U<|S.qu (Z.iy bS U)<|Q.bi U U U<|Q.nt<|?_
     refine S.cD U (λhc16=>?_) (λhc16=>?_)
     rotate_left
     contradiction
     refine UW.skip<|UQ.then<|S.sq<|UW.block<|Q.rg<|Q.mv U<|Q.mv U<|S.qu (Z.ia bS U U (by omega) U (by rfl))<|?_
     refine S.qu (Z.lF fJ U)<|S.qu (Z.fC Tryz.underlying9 U)<|Q.as U<|Q.nt<|S.sq<|?_
     refine' UW.dC (by kernel_rfl) [0,1,0,7,0,16,48,127,255,511,1023,511,2559,511,8703,511,57855,131071,511,511,786943,1835519,4194303,8388607] [some 24,some 25,some 26,some 27,some 28,some 29,some 30,some 31,some 32,some 33,some 34,some 35,some 36,some 37,some 38,some 39,some 40,some 41,some 42,some 43,some 44,some 45,some 46,some 47] [some (24,_),some (25,_),some (26,_),some (27,_),some (28,_),some (29,_),some (30,_),some (31,_),some (32,_),some (33,_),some (34,_),some (35,_),some (36,_),some (37,_),some (38,_),some (39,_),some (40,_),some (41,_),some (42,_),some (43,_),some (44,_),some (45,_),some (46,_),some (47,_)] [] [1,5,10,12,14,21] U (by decide) (by decide) (I.free (by decide) U U ?VA (I.held (by decide) U U ?VB (I.free (by decide) U U ?VD (I.free (by decide) U U ?VE (I.free (by decide) U U ?VF (I.held (by decide) U U ?VG (I.free (by decide) U U ?VH (I.free (by decide) U U ?VI (I.free (by decide) U U ?VJ (I.free (by decide) U U ?VK (I.held (by decide) U U ?Ro (I.free (by decide) U U ?Rp (I.held (by decide) U U ?Rq (I.free (by decide) U U ?Rs (I.held (by decide) U U ?Rt (I.free (by decide) U U ?Ru (I.free (by decide) U U ?Rv (I.free (by decide) U U ?Rw (I.free (by decide) U U ?Rx (I.free (by decide) U U ?Ry (I.free (by decide) U U ?Rz (I.held (by decide) U U ?RA (I.free (by decide) U U ?RB (I.free (by decide) U U ?RD I.nil)))))))))))))))))))))))) ?Y4
     case VA=>(intro _;exact Z.fa bB rfl)
     case VB=>exact Z.dQ 2 bC rfl rfl rfl
     case VD=>(intro _;exact Z.mv rfl)
     case VE=>(intro _;exact Z.add (r:=((p+fI.size:Nat):Int)) rfl rfl (IntWalk.i64_in _ (by omega)))
     case VF=>(intro _;exact Z.fa dO rfl)
     case VG=>exact Z.dQ 2 fJ rfl rfl rfl
     case VH=>(intro _;exact Z.fC Tryz.underlying9 rfl)
     case VI=>(intro _;exact Z.tF (Z.bi rfl rfl rfl) (decide_eq_false (by omega)))
     case VJ=>(intro _;exact Z.mv rfl)
     case VK=>(intro _;exact Z.of)
     case Ro=>exact Z.of
     case Rp=>(intro _;exact Z.of)
     case Rq=>exact Z.of
     case Rs=>(intro _;exact Z.of)
     case Rt=>exact Z.of
     case Ru=>(intro _;exact Z.of)
     case Rv=>(intro _;exact Z.of)
     case Rw=>(intro _;exact Z.of)
     case Rx=>(intro _;exact Z.of)
     case Ry=>(intro _;exact Z.of)
     case Rz=>(intro _;exact Z.of)
     case RA=>exact Z.of
     case RB=>(intro _;exact Z.of)
     case RD=>(intro _;exact Z.pick rfl rfl)
     refine CH.nil<|?_
     simp only[app,bV]
     refine UQ.then<|S.cF U U<|UW.skip<|UQ.aI<|UQ.then<|S.rg<|Q.mv U<|S.qu (Z.add (r:=((3:Nat):Int)) U U (IntWalk.i64_in _ (by omega)))<|Q.as U<|US.nil<|?_
     refine S.back 3 ⟨rfl,rfl,rfl,rfl,rfl,rfl,trivial⟩ (.refl _) ?_ (by omega)
    exact⟨by decide,λ_=>h1 (by decide),λ_=>h2 (by decide),λ_=>by trivial⟩
 ·have hr:eG s p=.err 11 p:=by unfold eG;rw[h1 (by decide),h2 (by decide),h3 (by decide)];rfl
  rw[hr]
  refine S.sq<|Q.rg<|Q.mv U<|Q.mv U<|S.qu (Z.iy bS U)<|Q.bi U U U<|Q.nt<|?_
  refine S.cD U (λhc16=>?_) (λhc16=>?_)
  contradiction
  refine UW.exit<|UQ.pass<|UQ.pass<|UQ.here<|UQ.then<|Q.rg<|S.qu (Z.bg 2 aF U U U)<|S.qu (Z.call U U (λH=>hf 11 H))<|S.qu (Z.bd [] dh U U U U U U)<|S.s<|D.st 1 aF U U U U U U U U λ_=>S.s<|D.st 0 ay U U U U U U U U λ_=>Q.nt<|UW.ret<|S.bG (λhd=>ax U (av (k:=1) hd U U fM fO) (av (k:=0) hd U U bH bI))<|?_
  rfl
end Go.Proofs.YtbooeongacgnbaaGreatDoor
end
