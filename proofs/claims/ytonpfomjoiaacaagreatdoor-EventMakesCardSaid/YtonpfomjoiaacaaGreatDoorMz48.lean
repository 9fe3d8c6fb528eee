/- A part of the proof. -/
import Derived.Test.YtonpfomjoiaacaaGreatDoorMz47
set_option maxRecDepth 100000
set_option maxHeartbeats 4000000
set_option linter.unusedSectionVars false
set_option linter.unusedVariables false
set_option linter.unusedSimpArgs false
section
namespace Go.Proofs.YtonpfomjoiaacaaGreatDoor
open Go Go.fT Go.RowKit
theorem yA(a b:EV)(ha:a.prev.length<=1000)(hb:a.dH.length<=1000)(hc:Fits a.body)(H:Hp):au Tryz.prog 32 [.agg (mZ a),.agg (mZ b)] H (bz H (.v (.bool (Fw a b)))):=by
 have h1:∀H,au Tryz.prog 80 [strs a.prev,strs b.prev] H (bz H (.v (.bool (kX r9 a.prev b.prev)))):=λH=>xG _ _ (by omega) H
 have h2:∀H,au Tryz.prog 80 [strs a.dH,strs b.dH] H (bz H (.v (.bool (kX r9 a.dH b.dH)))):=λH=>xG _ _ (by omega) H
 have h3:∀H,au Tryz.prog 81 [.agg (aD a.body),.agg (aD b.body)] H (bz H (.v (.bool (gp a.body b.body)))):=λH=>Gt _ hc _ H
 unfold Fw
 obtain⟨i1,t1,k1,s1,u1,r1,p1,a1,d1,m1,b1⟩:=a
 obtain⟨i2,t2,k2,s2,u2,r2,p2,a2,d2,m2,b2⟩:=b
 simp only at*
 generalize kX r9 p1 p2=e1 at*
 generalize kX r9 a1 a2=e2 at*
 generalize gp b1 b2=e3 at*
 obtain⟨x1,x2,x3,x4,x5⟩:=b1
 obtain⟨y1,y2,y3,y4,y5⟩:=b2
 refine aF (n:=82) (H0:=H) (I:=[]) Tryz.func32 (by kernel_rfl) U (by rw[Tryz.ntmps32];rfl) .nil ?_
 focus
  refine S.sq (S.rg ?_)
  refine S.dd (D.box U U U (λp2=>?_))
  refine S.dd (D.box U U U (λp3=>?_))
  refine S.qu (Z.as U) ?_
  refine US.nil (UQ.then (S.sq (S.rg ?_)))
  refine S.qu (Z.fa wY U) ?_
  refine S.qu (Z.di 1 ed U U U) ?_
  refine S.qu (Z.fa wY U) ?_
  refine S.qu (Z.di 0 ed U U U) ?_
  refine S.qu (Z.bs U U U) ?_
  refine S.qu (Z.mv U) ?_
  refine S.tE 11 (λuu=>?_) (λuu=>?_)
  refine S.qu (Z.on (Z.fa Fz U)) ?_
  refine S.qu (Z.on (Z.di 1 ed U U U)) ?_
  refine S.qu (Z.on (Z.fa Fz U)) ?_
  refine S.qu (Z.on (Z.di 0 ed U U U)) ?_
  refine S.qu (Z.on (Z.bs U U U)) ?_
  refine S.qu (Z.pick U U) ?_
  refine S.qu (Z.mv U) ?_
  refine S.tE 18 (λhc18=>?_) (λhc18=>?_)
  refine S.qu (Z.on (Z.fa wZ U)) ?_
  refine S.qu (Z.on (Z.di 1 ed U U U)) ?_
  refine S.qu (Z.on (Z.fa wZ U)) ?_
  refine S.qu (Z.on (Z.di 0 ed U U U)) ?_
  refine S.qu (Z.on (Z.bs U U U)) ?_
  refine S.qu (Z.pick U U) ?_
  refine S.qu (Z.mv U) ?_
  refine S.tE 25 (λhc25=>?_) (λhc25=>?_)
  refine S.qu (Z.on (Z.fa kW U)) ?_
  refine S.qu (Z.on (Z.di 1 oo U U U)) ?_
  refine S.qu (Z.on (Z.fa kW U)) ?_
  refine S.qu (Z.on (Z.di 0 oo U U U)) ?_
  refine S.qu (Z.on (Z.beq Tryz.underlying4 U U)) ?_
  refine S.qu (Z.pick U U) ?_
  refine S.qu (Z.mv U) ?_
  refine S.tE 32 (λhc32=>?_) (λhc32=>?_)
  refine S.qu (Z.on (Z.fa FB U)) ?_
  refine S.qu (Z.on (Z.di 1 ed U U U)) ?_
  refine S.qu (Z.on (Z.fa FB U)) ?_
  refine S.qu (Z.on (Z.di 0 ed U U U)) ?_
  refine S.qu (Z.on (Z.bs U U U)) ?_
  refine S.qu (Z.pick U U) ?_
  refine S.qu (Z.mv U) ?_
  refine S.tE 39 (λhc39=>?_) (λhc39=>?_)
  refine S.qu (Z.on (Z.fa FC U)) ?_
  refine S.qu (Z.on (Z.di 1 ed U U U)) ?_
  refine S.qu (Z.on (Z.fa FC U)) ?_
  refine S.qu (Z.on (Z.di 0 ed U U U)) ?_
  refine S.qu (Z.on (Z.bs U U U)) ?_
  refine S.qu (Z.pick U U) ?_
  refine S.qu (Z.as U) ?_
  refine US.nil (UQ.then (S.sq (S.rg ?_)))
  refine S.qu (Z.mv U) ?_
  refine S.qu (Z.mv U) ?_
  refine S.tE 47 (λhc47=>?_) (λhc47=>?_)
  refine S.qu (Z.on (Z.fa FD U)) ?_
  refine S.qu (Z.on (Z.di 1 qF U U U)) ?_
  refine S.qu (Z.on (Z.fa FD U)) ?_
  refine S.qu (Z.on (Z.di 0 qF U U U)) ?_
  refine S.qu (Z.on (Z.bi U U U)) ?_
  refine S.qu (Z.pick U U) ?_
  refine S.qu (Z.mv U) ?_
  refine S.tE 54 (λhc54=>?_) (λhc54=>?_)
  refine S.qu (Z.on (Z.fa FE U)) ?_
  refine S.qu (Z.on (Z.di 1 qF U U U)) ?_
  refine S.qu (Z.on (Z.fa FE U)) ?_
  refine S.qu (Z.on (Z.di 0 qF U U U)) ?_
  refine S.qu (Z.on (Z.bi U U U)) ?_
  refine S.qu (Z.pick U U) ?_
  refine S.qu (Z.mv U) ?_
  refine S.tE 61 (λhc61=>?_) (λhc61=>?_)
  refine S.qu (Z.on (Z.fa vF U)) ?_
  refine S.qu (Z.on (Z.di 1 dD U U U)) ?_
  refine S.qu (Z.on (Z.fa vF U)) ?_
  refine S.qu (Z.on (Z.di 0 dD U U U)) ?_
  refine S.qu (Z.on (Z.call U U (λH=>h1 H))) ?_
  refine S.qu (Z.pick U U) ?_
  refine S.qu (Z.mv U) ?_
  refine S.tB 68 (λabm=>?_) (λabm=>?_)
  refine S.qu (Z.on (Z.fa vG U)) ?_
  refine S.qu (Z.on (Z.di 1 dD U U U)) ?_
  refine S.qu (Z.on (Z.fa vG U)) ?_
  refine S.qu (Z.on (Z.di 0 dD U U U)) ?_
  refine S.qu (Z.on (Z.call U U (λH=>h2 H))) ?_
  refine S.qu (Z.pick U U) ?_
  refine S.qu (Z.mv U) ?_
  refine S.tB 75 (λaaI=>?_) (λaaI=>?_)
  refine S.qu (Z.on (Z.fa tY U)) ?_
  refine S.qu (Z.on (Z.QJ 1 av U U U)) ?_
  refine S.qu (Z.on (Z.fa tY U)) ?_
  refine S.qu (Z.on (Z.QJ 0 av U U U)) ?_
  refine S.qu (Z.on (Z.call U U (λH=>h3 H))) ?_
  refine S.qu (Z.pick U U) ?_
  refine S.qu (Z.as U) ?_
  refine US.nil (UQ.then (UW.ret ?_))
  refine S.bK (λ_=>ak U U) ?_
  rotate_left
  refine S.qu (Z.of) ?_
  refine S.qu (Z.of) ?_
  refine S.qu (Z.of) ?_
  refine S.qu (Z.of) ?_
  refine S.qu (Z.of) ?_
  refine S.qu (Z.pick U U) ?_
  refine S.qu (Z.as U) ?_
  refine US.nil (UQ.then (UW.ret ?_))
  refine S.bK (λ_=>ak U U) ?_
  rotate_left
  refine S.qu (Z.of) ?_
  refine S.qu (Z.of) ?_
  refine S.qu (Z.of) ?_
  refine S.qu (Z.of) ?_
  refine S.qu (Z.of) ?_
  refine S.qu (Z.pick U U) ?_
  refine S.qu (Z.mv U) ?_
  refine S.qu (Z.of) ?_
  refine S.qu (Z.of) ?_
  refine S.qu (Z.of) ?_
  refine S.qu (Z.of) ?_
  refine S.qu (Z.of) ?_
  refine S.qu (Z.pick U U) ?_
  refine S.qu (Z.as U) ?_
  refine US.nil (UQ.then (UW.ret ?_))
  refine S.bK (λ_=>ak U U) ?_
  rotate_left
  refine S.qu (Z.of) ?_
  refine S.qu (Z.of) ?_
  refine S.qu (Z.of) ?_
  refine S.qu (Z.of) ?_
  refine S.qu (Z.of) ?_
  refine S.qu (Z.pick U U) ?_
  refine S.qu (Z.mv U) ?_
  refine S.qu (Z.of) ?_
  refine S.qu (Z.of) ?_
  refine S.qu (Z.of) ?_
  refine S.qu (Z.of) ?_
  refine S.qu (Z.of) ?_
  refine S.qu (Z.pick U U) ?_
  refine S.qu (Z.mv U) ?_
  refine S.qu (Z.of) ?_
  refine S.qu (Z.of) ?_
  refine S.qu (Z.of) ?_
  refine S.qu (Z.of) ?_
  refine S.qu (Z.of) ?_
  refine S.qu (Z.pick U U) ?_
  refine S.qu (Z.as U) ?_
  refine US.nil (UQ.then (UW.ret ?_))
  refine S.bK (λ_=>ak U U) ?_
  rotate_left
  refine S.qu (Z.of) ?_
  refine S.qu (Z.of) ?_
  refine S.qu (Z.of) ?_
  refine S.qu (Z.of) ?_
  refine S.qu (Z.of) ?_
  refine S.qu (Z.pick U U) ?_
  refine S.qu (Z.mv U) ?_
  refine S.qu (Z.of) ?_
  refine S.qu (Z.of) ?_
  refine S.qu (Z.of) ?_
  refine S.qu (Z.of) ?_
  refine S.qu (Z.of) ?_
  refine S.qu (Z.pick U U) ?_
  refine S.qu (Z.mv U) ?_
  refine S.qu (Z.of) ?_
  refine S.qu (Z.of) ?_
  refine S.qu (Z.of) ?_
  refine S.qu (Z.of) ?_
  refine S.qu (Z.of) ?_
  refine S.qu (Z.pick U U) ?_
  refine S.qu (Z.mv U) ?_
  refine S.qu (Z.of) ?_
  refine S.qu (Z.of) ?_
  refine S.qu (Z.of) ?_
  refine S.qu (Z.of) ?_
  refine S.qu (Z.of) ?_
  refine S.qu (Z.pick U U) ?_
  refine S.qu (Z.as U) ?_
  refine US.nil (UQ.then (UW.ret ?_))
  refine S.bK (λ_=>ak U U) ?_
  rotate_left
  refine S.qu (Z.of) ?_
  refine S.qu (Z.of) ?_
  refine S.qu (Z.of) ?_
  refine S.qu (Z.of) ?_
  refine S.qu (Z.of) ?_
  refine S.qu (Z.pick U U) ?_
  refine S.qu (Z.mv U) ?_
  refine S.qu (Z.of) ?_
  refine S.qu (Z.of) ?_
  refine S.qu (Z.of) ?_
  refine S.qu (Z.of) ?_
  refine S.qu (Z.of) ?_
  refine S.qu (Z.pick U U) ?_
  refine S.qu (Z.mv U) ?_
  refine S.qu (Z.of) ?_
  refine S.qu (Z.of) ?_
  refine S.qu (Z.of) ?_
  refine S.qu (Z.of) ?_
  refine S.qu (Z.of) ?_
  refine S.qu (Z.pick U U) ?_
  refine S.qu (Z.mv U) ?_
  refine S.qu (Z.of) ?_
  refine S.qu (Z.of) ?_
  refine S.qu (Z.of) ?_
  refine S.qu (Z.of) ?_
  refine S.qu (Z.of) ?_
  refine S.qu (Z.pick U U) ?_
  refine S.qu (Z.mv U) ?_
  refine S.qu (Z.of) ?_
  refine S.qu (Z.of) ?_
  refine S.qu (Z.of) ?_
  refine S.qu (Z.of) ?_
  refine S.qu (Z.of) ?_
  refine S.qu (Z.pick U U) ?_
  refine S.qu (Z.as U) ?_
  refine US.nil (UQ.then (UW.ret ?_))
  refine S.bK (λ_=>ak U U) ?_
  rotate_left
  refine S.qu (Z.of) ?_
  refine S.qu (Z.of) ?_
  refine S.qu (Z.of) ?_
  refine S.qu (Z.of) ?_
  refine S.qu (Z.of) ?_
  refine S.qu (Z.pick U U) ?_
  refine S.qu (Z.as U) ?_
  refine US.nil (UQ.then (S.sq (S.rg ?_)))
  refine S.qu (Z.mv U) ?_
  refine S.qu (Z.mv U) ?_
  refine S.qu (Z.of) ?_
  refine S.qu (Z.of) ?_
  refine S.qu (Z.of) ?_
  refine S.qu (Z.of) ?_
  refine S.qu (Z.of) ?_
  refine S.qu (Z.pick U U) ?_
  refine S.qu (Z.mv U) ?_
  refine S.qu (Z.of) ?_
  refine S.qu (Z.of) ?_
  refine S.qu (Z.of) ?_
  refine S.qu (Z.of) ?_
  refine S.qu (Z.of) ?_
  refine S.qu (Z.pick U U) ?_
  refine S.qu (Z.mv U) ?_
  refine S.qu (Z.of) ?_
  refine S.qu (Z.of) ?_
  refine S.qu (Z.of) ?_
  refine S.qu (Z.of) ?_
  refine S.qu (Z.of) ?_
  refine S.qu (Z.pick U U) ?_
  refine S.qu (Z.mv U) ?_
  refine S.qu (Z.of) ?_
  refine S.qu (Z.of) ?_
  refine S.qu (Z.of) ?_
  refine S.qu (Z.of) ?_
  refine S.qu (Z.of) ?_
  refine S.qu (Z.pick U U) ?_
  refine S.qu (Z.mv U) ?_
  refine S.qu (Z.of) ?_
  refine S.qu (Z.of) ?_
  refine S.qu (Z.of) ?_
  refine S.qu (Z.of) ?_
  refine S.qu (Z.of) ?_
  refine S.qu (Z.pick U U) ?_
  refine S.qu (Z.as U) ?_
  refine US.nil (UQ.then (UW.ret ?_))
  refine S.bK (λ_=>ak U U) ?_
  rotate_left
  refine S.qu (Z.of) ?_
  refine S.qu (Z.of) ?_
  refine S.qu (Z.of) ?_
  refine S.qu (Z.of) ?_
  refine S.qu (Z.of) ?_
  refine S.qu (Z.pick U U) ?_
  refine S.qu (Z.mv U) ?_
  refine S.qu (Z.of) ?_
  refine S.qu (Z.of) ?_
  refine S.qu (Z.of) ?_
  refine S.qu (Z.of) ?_
  refine S.qu (Z.of) ?_
  refine S.qu (Z.pick U U) ?_
  refine S.qu (Z.as U) ?_
  refine US.nil (UQ.then (S.sq (S.rg ?_)))
  refine S.qu (Z.mv U) ?_
  refine S.qu (Z.mv U) ?_
  refine S.qu (Z.of) ?_
  refine S.qu (Z.of) ?_
  refine S.qu (Z.of) ?_
  refine S.qu (Z.of) ?_
  refine S.qu (Z.of) ?_
  refine S.qu (Z.pick U U) ?_
  refine S.qu (Z.mv U) ?_
  refine S.qu (Z.of) ?_
  refine S.qu (Z.of) ?_
  refine S.qu (Z.of) ?_
  refine S.qu (Z.of) ?_
  refine S.qu (Z.of) ?_
  refine S.qu (Z.pick U U) ?_
  refine S.qu (Z.mv U) ?_
  refine S.qu (Z.of) ?_
  refine S.qu (Z.of) ?_
  refine S.qu (Z.of) ?_
  refine S.qu (Z.of) ?_
  refine S.qu (Z.of) ?_
  refine S.qu (Z.pick U U) ?_
  refine S.qu (Z.mv U) ?_
  refine S.qu (Z.of) ?_
  refine S.qu (Z.of) ?_
  refine S.qu (Z.of) ?_
  refine S.qu (Z.of) ?_
  refine S.qu (Z.of) ?_
  refine S.qu (Z.pick U U) ?_
  refine S.qu (Z.mv U) ?_
  refine S.qu (Z.of) ?_
  refine S.qu (Z.of) ?_
  refine S.qu (Z.of) ?_
  refine S.qu (Z.of) ?_
  refine S.qu (Z.of) ?_
  refine S.qu (Z.pick U U) ?_
  refine S.qu (Z.as U) ?_
  refine US.nil (UQ.then (UW.ret ?_))
  refine S.bK (λ_=>ak U U) ?_
  rotate_left
  refine S.qu (Z.of) ?_
  refine S.qu (Z.of) ?_
  refine S.qu (Z.of) ?_
  refine S.qu (Z.of) ?_
  refine S.qu (Z.of) ?_
  refine S.qu (Z.pick U U) ?_
  refine S.qu (Z.mv U) ?_
  refine S.qu (Z.of) ?_
  refine S.qu (Z.of) ?_
  refine S.qu (Z.of) ?_
  refine S.qu (Z.of) ?_
  refine S.qu (Z.of) ?_
  refine S.qu (Z.pick U U) ?_
  refine S.qu (Z.mv U) ?_
  refine S.qu (Z.of) ?_
  refine S.qu (Z.of) ?_
  refine S.qu (Z.of) ?_
  refine S.qu (Z.of) ?_
  refine S.qu (Z.of) ?_
  refine S.qu (Z.pick U U) ?_
  refine S.qu (Z.as U) ?_
  refine US.nil (UQ.then (S.sq (S.rg ?_)))
  refine S.qu (Z.mv U) ?_
  refine S.qu (Z.mv U) ?_
  refine S.qu (Z.of) ?_
  refine S.qu (Z.of) ?_
  refine S.qu (Z.of) ?_
  refine S.qu (Z.of) ?_
  refine S.qu (Z.of) ?_
  refine S.qu (Z.pick U U) ?_
  refine S.qu (Z.mv U) ?_
  refine S.qu (Z.of) ?_
  refine S.qu (Z.of) ?_
  refine S.qu (Z.of) ?_
  refine S.qu (Z.of) ?_
  refine S.qu (Z.of) ?_
  refine S.qu (Z.pick U U) ?_
  refine S.qu (Z.mv U) ?_
  refine S.qu (Z.of) ?_
  refine S.qu (Z.of) ?_
  refine S.qu (Z.of) ?_
  refine S.qu (Z.of) ?_
  refine S.qu (Z.of) ?_
  refine S.qu (Z.pick U U) ?_
  refine S.qu (Z.mv U) ?_
  refine S.qu (Z.of) ?_
  refine S.qu (Z.of) ?_
  refine S.qu (Z.of) ?_
  refine S.qu (Z.of) ?_
  refine S.qu (Z.of) ?_
  refine S.qu (Z.pick U U) ?_
  refine S.qu (Z.mv U) ?_
  refine S.qu (Z.of) ?_
  refine S.qu (Z.of) ?_
  refine S.qu (Z.of) ?_
  refine S.qu (Z.of) ?_
  refine S.qu (Z.of) ?_
  refine S.qu (Z.pick U U) ?_
  refine S.qu (Z.as U) ?_
  refine US.nil (UQ.then (UW.ret ?_))
  refine S.bK (λ_=>ak U U) ?_
  rotate_left
  refine S.qu (Z.of) ?_
  refine S.qu (Z.of) ?_
  refine S.qu (Z.of) ?_
  refine S.qu (Z.of) ?_
  refine S.qu (Z.of) ?_
  refine S.qu (Z.pick U U) ?_
  refine S.qu (Z.mv U) ?_
  refine S.qu (Z.of) ?_
  refine S.qu (Z.of) ?_
  refine S.qu (Z.of) ?_
  refine S.qu (Z.of) ?_
  refine S.qu (Z.of) ?_
  refine S.qu (Z.pick U U) ?_
  refine S.qu (Z.mv U) ?_
  refine S.qu (Z.of) ?_
  refine S.qu (Z.of) ?_
  refine S.qu (Z.of) ?_
  refine S.qu (Z.of) ?_
  refine S.qu (Z.of) ?_
  refine S.qu (Z.pick U U) ?_
  refine S.qu (Z.mv U) ?_
  refine S.qu (Z.of) ?_
  refine S.qu (Z.of) ?_
  refine S.qu (Z.of) ?_
  refine S.qu (Z.of) ?_
  refine S.qu (Z.of) ?_
  refine S.qu (Z.pick U U) ?_
  refine S.qu (Z.as U) ?_
  refine US.nil (UQ.then (S.sq (S.rg ?_)))
  refine S.qu (Z.mv U) ?_
  refine S.qu (Z.mv U) ?_
  refine S.qu (Z.of) ?_
  refine S.qu (Z.of) ?_
  refine S.qu (Z.of) ?_
  refine S.qu (Z.of) ?_
  refine S.qu (Z.of) ?_
  refine S.qu (Z.pick U U) ?_
  refine S.qu (Z.mv U) ?_
  refine S.qu (Z.of) ?_
  refine S.qu (Z.of) ?_
  refine S.qu (Z.of) ?_
  refine S.qu (Z.of) ?_
  refine S.qu (Z.of) ?_
  refine S.qu (Z.pick U U) ?_
  refine S.qu (Z.mv U) ?_
  refine S.qu (Z.of) ?_
  refine S.qu (Z.of) ?_
  refine S.qu (Z.of) ?_
  refine S.qu (Z.of) ?_
  refine S.qu (Z.of) ?_
  refine S.qu (Z.pick U U) ?_
  refine S.qu (Z.mv U) ?_
  refine S.qu (Z.of) ?_
  refine S.qu (Z.of) ?_
  refine S.qu (Z.of) ?_
  refine S.qu (Z.of) ?_
  refine S.qu (Z.of) ?_
  refine S.qu (Z.pick U U) ?_
  refine S.qu (Z.mv U) ?_
  refine S.qu (Z.of) ?_
  refine S.qu (Z.of) ?_
  refine S.qu (Z.of) ?_
  refine S.qu (Z.of) ?_
  refine S.qu (Z.of) ?_
  refine S.qu (Z.pick U U) ?_
  refine S.qu (Z.as U) ?_
  refine US.nil (UQ.then (UW.ret ?_))
  refine S.bK (λ_=>ak U U) ?_
  rotate_left
  refine S.qu (Z.of) ?_
  refine S.qu (Z.of) ?_
  refine S.qu (Z.of) ?_
  refine S.qu (Z.of) ?_
  refine S.qu (Z.of) ?_
  refine S.qu (Z.pick U U) ?_
  refine S.qu (Z.mv U) ?_
  refine S.qu (Z.of) ?_
  refine S.qu (Z.of) ?_
  refine S.qu (Z.of) ?_
  refine S.qu (Z.of) ?_
  refine S.qu (Z.of) ?_
  refine S.qu (Z.pick U U) ?_
  refine S.qu (Z.mv U) ?_
  refine S.qu (Z.of) ?_
  refine S.qu (Z.of) ?_
  refine S.qu (Z.of) ?_
  refine S.qu (Z.of) ?_
  refine S.qu (Z.of) ?_
  refine S.qu (Z.pick U U) ?_
  refine S.qu (Z.mv U) ?_
  refine S.qu (Z.of) ?_
  refine S.qu (Z.of) ?_
  refine S.qu (Z.of) ?_
  refine S.qu (Z.of) ?_
  refine S.qu (Z.of) ?_
  refine S.qu (Z.pick U U) ?_
  refine S.qu (Z.mv U) ?_
  refine S.qu (Z.of) ?_
  refine S.qu (Z.of) ?_
  refine S.qu (Z.of) ?_
  refine S.qu (Z.of) ?_
  refine S.qu (Z.of) ?_
  refine S.qu (Z.pick U U) ?_
  refine S.qu (Z.as U) ?_
  refine US.nil (UQ.then (S.sq (S.rg ?_)))
  refine S.qu (Z.mv U) ?_
  refine S.qu (Z.mv U) ?_
  refine S.qu (Z.of) ?_
  refine S.qu (Z.of) ?_
  refine S.qu (Z.of) ?_
  refine S.qu (Z.of) ?_
  refine S.qu (Z.of) ?_
  refine S.qu (Z.pick U U) ?_
  refine S.qu (Z.mv U) ?_
  refine S.qu (Z.of) ?_
  refine S.qu (Z.of) ?_
  refine S.qu (Z.of) ?_
  refine S.qu (Z.of) ?_
  refine S.qu (Z.of) ?_
  refine S.qu (Z.pick U U) ?_
  refine S.qu (Z.mv U) ?_
  refine S.qu (Z.of) ?_
  refine S.qu (Z.of) ?_
  refine S.qu (Z.of) ?_
  refine S.qu (Z.of) ?_
  refine S.qu (Z.of) ?_
  refine S.qu (Z.pick U U) ?_
  refine S.qu (Z.mv U) ?_
  refine S.qu (Z.of) ?_
  refine S.qu (Z.of) ?_
  refine S.qu (Z.of) ?_
  refine S.qu (Z.of) ?_
  refine S.qu (Z.of) ?_
  refine S.qu (Z.pick U U) ?_
  refine S.qu (Z.mv U) ?_
  refine S.qu (Z.of) ?_
  refine S.qu (Z.of) ?_
  refine S.qu (Z.of) ?_
  refine S.qu (Z.of) ?_
  refine S.qu (Z.of) ?_
  refine S.qu (Z.pick U U) ?_
  refine S.qu (Z.as U) ?_
  refine US.nil (UQ.then (UW.ret ?_))
  refine S.bK (λ_=>ak U U) ?_
  rotate_left
 all_goals (refine congrArg (λb=>AV.v (Value.bool b)) ?_;clear h1 h2 h3 ha hb hc;simp_all)
theorem Kl(l:List ByteArray)(hl:l.length<=1000000)(H:Hp):
 au Tryz.prog 108 [strs l,.gN 76 []] H (Ii H 26 5 (aW (l.map cK))):=by
 refine aF (n:=22) (H0:=H) (I:=[]) Tryz.func108 (by kernel_rfl) U (by rw[Tryz.ntmps108];rfl) .nil ?_
 repeat (with_reducible first|refine UW.seq ?_|refine UW.block ?_|refine UQ.then ?_|refine UQ.aB ?_|refine UW.skip ?_|refine UW.exit ?_|refine UQ.pass ?_|refine UQ.here ?_|refine UQ.out (by decide) ?_|refine UW.ret ?_|refine UQ.ax ?_|refine UQ.aH ?_|refine UW.region ?_)
 refine US.assign U (by decide) U U U ?_
 refine US.nil ?_
 repeat (with_reducible first|refine UW.seq ?_|refine UW.block ?_|refine UQ.then ?_|refine UQ.aB ?_|refine UW.skip ?_|refine UW.exit ?_|refine UQ.pass ?_|refine UQ.here ?_|refine UQ.out (by decide) ?_|refine UW.ret ?_|refine UQ.ax ?_|refine UQ.aH ?_|refine UW.region ?_)
 refine US.assign U (by decide) U U U ?_
 refine US.kG 5 26 5 (by decide) U λi0=>US.nil ?_
 repeat (with_reducible first|refine UW.seq ?_|refine UW.block ?_|refine UQ.then ?_|refine UQ.aB ?_|refine UW.skip ?_|refine UW.exit ?_|refine UQ.pass ?_|refine UQ.here ?_|refine UQ.out (by decide) ?_|refine UW.ret ?_|refine UQ.ax ?_|refine UQ.aH ?_|refine UW.region ?_)
 refine US.move U (by decide) U U U ?_
 first|refine US.fC U (by decide) U U aY U ?_|refine US.il U (by decide) U U aY U ?_|refine US.len_nil U (by decide) U U aY U ?_
 refine US.move U (by decide) U U U ?_
 refine US.nil ?_
 repeat (with_reducible first|refine UW.seq ?_|refine UW.block ?_|refine UQ.then ?_|refine UQ.aB ?_|refine UW.skip ?_|refine UW.exit ?_|refine UQ.pass ?_|refine UQ.here ?_|refine UQ.out (by decide) ?_|refine UW.ret ?_|refine UQ.ax ?_|refine UQ.aH ?_|refine UW.region ?_)
 refine UW.loop (λp:Nat×Nat=>[(10,.v (.int .i64 (p.1:Int))),(5,.own p.2 0 p.1 5),(8,strs l),(9,.v (.int .i64 ((l.map encS).length:Int))),(1,.gN 76 [])]) (λp=>[(p.2,.row 26 5 ((aW (l.map cK)).take p.1))]) (λp=>p.1<=l.length) (λp=>l.length-p.1) (0,i0) (Nat.zero_le _) ⟨rfl,rfl,rfl,rfl,rfl,trivial⟩ (.refl _) ?_
 rintro⟨k,id⟩ hk
 simp only at hk
 have hll:(aW (l.map cK)).length=l.length:=by rw[aP,List.length_map]
 have wI:(l.map encS).length=l.length:=List.length_map ..
 repeat (with_reducible first|refine UW.seq ?_|refine UW.block ?_|refine UQ.then ?_|refine UQ.aB ?_|refine UW.skip ?_|refine UW.exit ?_|refine UQ.pass ?_|refine UQ.here ?_|refine UQ.out (by decide) ?_|refine UW.ret ?_|refine UQ.ax ?_|refine UQ.aH ?_|refine UW.region ?_)
 refine US.az U (by decide) U U U U U ?_
 refine US.nil ?_
 repeat (with_reducible first|refine UW.seq ?_|refine UW.block ?_|refine UQ.then ?_|refine UQ.aB ?_|refine UW.skip ?_|refine UW.exit ?_|refine UQ.pass ?_|refine UQ.here ?_|refine UQ.out (by decide) ?_|refine UW.ret ?_|refine UQ.ax ?_|refine UQ.aH ?_|refine UW.region ?_)
 refine UW.cond U (λh=>?_) (λh=>?_)
 ·have h:=of_decide_eq_true h
  have hlt:k<l.length:=by omega
  repeat (with_reducible first|refine UW.seq ?_|refine UW.block ?_|refine UQ.then ?_|refine UQ.aB ?_|refine UW.skip ?_|refine UW.exit ?_|refine UQ.pass ?_|refine UQ.here ?_|refine UQ.out (by decide) ?_|refine UW.ret ?_|refine UQ.ax ?_|refine UQ.aH ?_|refine UW.region ?_)
  refine US.bI U (by decide) U U aY U U (by omega) (eD l k hlt) U ?_
  first|refine US.aJ U (by decide) U U ed U (k:=0) U U ?_|refine US.aJ U (by decide) U U ed U (k:=1) U U ?_|refine US.aJ U (by decide) U U ed U (k:=2) U U ?_|refine US.aJ U (by decide) U U ed U (k:=3) U U ?_|refine US.aJ U (by decide) U U ed U (k:=4) U U ?_|refine US.aJ U (by decide) U U ed U (k:=5) U U ?_|refine US.bD U (by decide) U U U ed ?_
  refine US.assign U (by decide) U U U ?_
  refine US.nil ?_
  repeat (with_reducible first|refine UW.seq ?_|refine UW.block ?_|refine UQ.then ?_|refine UQ.aB ?_|refine UW.skip ?_|refine UW.exit ?_|refine UQ.pass ?_|refine UQ.here ?_|refine UQ.out (by decide) ?_|refine UW.ret ?_|refine UQ.ax ?_|refine UQ.aH ?_|refine UW.region ?_)
  refine US.move U (by decide) U U U ?_
  refine US.move U (by decide) U U U ?_
  refine US.move U (by decide) U U U ?_
  refine US.dz U (by decide) U U U U (λ_=>o5 _ _) ?_
  refine US.oK U (by decide) U U iP (by decide) U U U (by first|exact bA U|(intro cs h;cases List.mem_singleton.1 h;exact⟨by first|rfl|exact aA _,by first|rfl|exact Y _⟩)|(simp[encS,encI,aR,Value.oneCell'];done)) ?_
  refine US.gQ U (by decide) U U iP U (k:=0) U (by rw[List.length_take];omega) U (rO.sl (λcs h=>by cases List.mem_singleton.1 h;exact Y _)) (by first|omega|(simp;omega)) (Eq.trans (by rw[List.take_take,Nat.min_self]) (NJ l k hlt)) λZ9=>?_
  refine US.assign U (by decide) U U U ?_
  refine US.nil ?_
  repeat (with_reducible first|refine UW.seq ?_|refine UW.block ?_|refine UQ.then ?_|refine UQ.aB ?_|refine UW.skip ?_|refine UW.exit ?_|refine UQ.pass ?_|refine UQ.here ?_|refine UQ.out (by decide) ?_|refine UW.ret ?_|refine UQ.ax ?_|refine UQ.aH ?_|refine UW.region ?_)
  refine US.add U (by decide) U U U U (IntWalk.i64_in _ (by omega)) ?_
  refine US.move U (by decide) U U U ?_
  exact US.round (a':=(k+1,Z9)) (by simp only;omega) (by simp only;omega) ⟨rfl,rfl,rfl,rfl,rfl,trivial⟩ (by simp)
 ·have h:=of_decide_eq_false h
  have hkl:k=l.length:=by simp only at h;omega
  repeat (with_reducible first|refine UW.seq ?_|refine UW.block ?_|refine UQ.then ?_|refine UQ.aB ?_|refine UW.skip ?_|refine UW.exit ?_|refine UQ.pass ?_|refine UQ.here ?_|refine UQ.out (by decide) ?_|refine UW.ret ?_|refine UQ.ax ?_|refine UQ.aH ?_|refine UW.region ?_)
  refine US.move U (by decide) U U U ?_
  refine US.assign U (by decide) U U U ?_
  refine US.nil ?_
  repeat (with_reducible first|refine UW.seq ?_|refine UW.block ?_|refine UQ.then ?_|refine UQ.aB ?_|refine UW.skip ?_|refine UW.exit ?_|refine UQ.pass ?_|refine UQ.here ?_|refine UQ.out (by decide) ?_|refine UW.ret ?_|refine UQ.ax ?_|refine UQ.aH ?_|refine UW.region ?_)
  refine bN [(id,_)] (λ_=>ak U U) (.refl _) λhd=>?_
  exact⟨_,hd,rfl,id,by rw[hll,hkl],by rw[hkl,<-hll,List.take_length]⟩
theorem FP(l:List ByteArray)(hl:l.length<=1000000)(H:Hp):au Tryz.prog 74 [strs l] H (bz H (.agg (aD (eX l)))):=by
 have hll:(aW (l.map cK)).length=l.length:=by rw[aP,List.length_map]
 refine aF (n:=6) (H0:=H) (I:=[]) Tryz.func74 (by kernel_rfl) U (by rw[Tryz.ntmps74];rfl) .nil ?_
 repeat (with_reducible first|refine UW.seq ?_|refine UW.block ?_|refine UQ.then ?_|refine UQ.aB ?_|refine UW.skip ?_|refine UW.exit ?_|refine UQ.pass ?_|refine UQ.here ?_|refine UQ.out (by decide) ?_|refine UW.ret ?_|refine UQ.ax ?_|refine UQ.aH ?_|refine UW.region ?_)
 refine US.nz U (by decide) U U z26 U U U U λp2=>?_
 refine US.nil ?_
 repeat (with_reducible first|refine UW.seq ?_|refine UW.block ?_|refine UQ.then ?_|refine UQ.aB ?_|refine UW.skip ?_|refine UW.exit ?_|refine UQ.pass ?_|refine UQ.here ?_|refine UQ.out (by decide) ?_|refine UW.ret ?_|refine UQ.ax ?_|refine UQ.aH ?_|refine UW.region ?_)
 refine US.move U (by decide) U U U ?_
 refine US.lq U (by decide) U U U U (λ_=>Kl l hl _) ?_;rintro _ _ ⟨p4,rfl,rfl⟩
 refine US.gG 4 (k:=0) U U (by omega) (rs:=aW (l.map cK)) (by rw[List.drop_zero,List.take_length]) ?_
 refine US.Ah [0,4] U (by decide) U U iE U U U U U U U U ?_
 first|refine US.bU U U U av U (k:=0) U (by first|rfl|exact Y _|(simp;done)) U U (by first|rfl|exact aA _|(simp[encS,encI,aR,Value.oneCell'];done)) (by first|rfl|exact Y _|(simp;done)) U ?_|refine US.bU U U U av U (k:=1) U (by first|rfl|exact Y _|(simp;done)) U U (by first|rfl|exact aA _|(simp[encS,encI,aR,Value.oneCell'];done)) (by first|rfl|exact Y _|(simp;done)) U ?_|refine US.bU U U U av U (k:=2) U (by first|rfl|exact Y _|(simp;done)) U U (by first|rfl|exact aA _|(simp[encS,encI,aR,Value.oneCell'];done)) (by first|rfl|exact Y _|(simp;done)) U ?_|refine US.bU U U U av U (k:=3) U (by first|rfl|exact Y _|(simp;done)) U U (by first|rfl|exact aA _|(simp[encS,encI,aR,Value.oneCell'];done)) (by first|rfl|exact Y _|(simp;done)) U ?_|refine US.bU U U U av U (k:=4) U (by first|rfl|exact Y _|(simp;done)) U U (by first|rfl|exact aA _|(simp[encS,encI,aR,Value.oneCell'];done)) (by first|rfl|exact Y _|(simp;done)) U ?_|refine US.bU U U U av U (k:=5) U (by first|rfl|exact Y _|(simp;done)) U U (by first|rfl|exact aA _|(simp[encS,encI,aR,Value.oneCell'];done)) (by first|rfl|exact Y _|(simp;done)) U ?_|refine US.fD U U U av U (k:=0) U U U (by first|rfl|exact aA _|(simp[encS,encI,aR,Value.oneCell'];done)) (by first|rfl|exact Y _|(simp;done)) U U ?_|refine US.fD U U U av U (k:=1) U U U (by first|rfl|exact aA _|(simp[encS,encI,aR,Value.oneCell'];done)) (by first|rfl|exact Y _|(simp;done)) U U ?_|refine US.fD U U U av U (k:=2) U U U (by first|rfl|exact aA _|(simp[encS,encI,aR,Value.oneCell'];done)) (by first|rfl|exact Y _|(simp;done)) U U ?_|refine US.fD U U U av U (k:=3) U U U (by first|rfl|exact aA _|(simp[encS,encI,aR,Value.oneCell'];done)) (by first|rfl|exact Y _|(simp;done)) U U ?_|refine US.fD U U U av U (k:=4) U U U (by first|rfl|exact aA _|(simp[encS,encI,aR,Value.oneCell'];done)) (by first|rfl|exact Y _|(simp;done)) U U ?_|refine US.fD U U U av U (k:=5) U U U (by first|rfl|exact aA _|(simp[encS,encI,aR,Value.oneCell'];done)) (by first|rfl|exact Y _|(simp;done)) U U ?_
 refine US.nil ?_
 repeat (with_reducible first|refine UW.seq ?_|refine UW.block ?_|refine UQ.then ?_|refine UQ.aB ?_|refine UW.skip ?_|refine UW.exit ?_|refine UQ.pass ?_|refine UQ.here ?_|refine UQ.out (by decide) ?_|refine UW.ret ?_|refine UQ.ax ?_|refine UQ.aH ?_|refine UW.region ?_)
 exact bN [] (λhd=>aU (k:=0) hd U U U fV fZ) (by simp) λhd=>⟨rfl,rfl⟩
theorem MZ(n:Int)(H:Hp):au Tryz.prog 75 [.v (.int .i64 n)] H (bz H (.agg (aD (mU n)))):=by
 refine aF (n:=5) (H0:=H) (I:=[]) Tryz.func75 (by kernel_rfl) U (by rw[Tryz.ntmps75];rfl) .nil ?_
 repeat (with_reducible first|refine UW.seq ?_|refine UW.block ?_|refine UQ.then ?_|refine UQ.aB ?_|refine UW.skip ?_|refine UW.exit ?_|refine UQ.pass ?_|refine UQ.here ?_|refine UQ.out (by decide) ?_|refine UW.ret ?_|refine UQ.ax ?_|refine UQ.aH ?_|refine UW.region ?_)
 refine US.nz U (by decide) U U z26 U U U U λp2=>?_
 refine US.nil ?_
 repeat (with_reducible first|refine UW.seq ?_|refine UW.block ?_|refine UQ.then ?_|refine UQ.aB ?_|refine UW.skip ?_|refine UW.exit ?_|refine UQ.pass ?_|refine UQ.here ?_|refine UQ.out (by decide) ?_|refine UW.ret ?_|refine UQ.ax ?_|refine UQ.aH ?_|refine UW.region ?_)
 refine US.move U (by decide) U U U ?_
 refine US.Ah [0,1] U (by decide) U U iE U U U U U U U U ?_
 first|refine US.bU U U U av U (k:=0) U (by first|rfl|exact Y _|(simp;done)) U U (by first|rfl|exact aA _|(simp[encS,encI,aR,Value.oneCell'];done)) (by first|rfl|exact Y _|(simp;done)) U ?_|refine US.bU U U U av U (k:=1) U (by first|rfl|exact Y _|(simp;done)) U U (by first|rfl|exact aA _|(simp[encS,encI,aR,Value.oneCell'];done)) (by first|rfl|exact Y _|(simp;done)) U ?_|refine US.bU U U U av U (k:=2) U (by first|rfl|exact Y _|(simp;done)) U U (by first|rfl|exact aA _|(simp[encS,encI,aR,Value.oneCell'];done)) (by first|rfl|exact Y _|(simp;done)) U ?_|refine US.bU U U U av U (k:=3) U (by first|rfl|exact Y _|(simp;done)) U U (by first|rfl|exact aA _|(simp[encS,encI,aR,Value.oneCell'];done)) (by first|rfl|exact Y _|(simp;done)) U ?_|refine US.bU U U U av U (k:=4) U (by first|rfl|exact Y _|(simp;done)) U U (by first|rfl|exact aA _|(simp[encS,encI,aR,Value.oneCell'];done)) (by first|rfl|exact Y _|(simp;done)) U ?_|refine US.bU U U U av U (k:=5) U (by first|rfl|exact Y _|(simp;done)) U U (by first|rfl|exact aA _|(simp[encS,encI,aR,Value.oneCell'];done)) (by first|rfl|exact Y _|(simp;done)) U ?_|refine US.fD U U U av U (k:=0) U U U (by first|rfl|exact aA _|(simp[encS,encI,aR,Value.oneCell'];done)) (by first|rfl|exact Y _|(simp;done)) U U ?_|refine US.fD U U U av U (k:=1) U U U (by first|rfl|exact aA _|(simp[encS,encI,aR,Value.oneCell'];done)) (by first|rfl|exact Y _|(simp;done)) U U ?_|refine US.fD U U U av U (k:=2) U U U (by first|rfl|exact aA _|(simp[encS,encI,aR,Value.oneCell'];done)) (by first|rfl|exact Y _|(simp;done)) U U ?_|refine US.fD U U U av U (k:=3) U U U (by first|rfl|exact aA _|(simp[encS,encI,aR,Value.oneCell'];done)) (by first|rfl|exact Y _|(simp;done)) U U ?_|refine US.fD U U U av U (k:=4) U U U (by first|rfl|exact aA _|(simp[encS,encI,aR,Value.oneCell'];done)) (by first|rfl|exact Y _|(simp;done)) U U ?_|refine US.fD U U U av U (k:=5) U U U (by first|rfl|exact aA _|(simp[encS,encI,aR,Value.oneCell'];done)) (by first|rfl|exact Y _|(simp;done)) U U ?_
 refine US.nil ?_
 repeat (with_reducible first|refine UW.seq ?_|refine UW.block ?_|refine UQ.then ?_|refine UQ.aB ?_|refine UW.skip ?_|refine UW.exit ?_|refine UQ.pass ?_|refine UQ.here ?_|refine UQ.out (by decide) ?_|refine UW.ret ?_|refine UQ.ax ?_|refine UQ.aH ?_|refine UW.region ?_)
 exact bN [] (λhd=>aU (k:=0) hd U U U fV fZ) (by simp) λhd=>⟨rfl,rfl⟩
end Go.Proofs.YtonpfomjoiaacaaGreatDoor
end
