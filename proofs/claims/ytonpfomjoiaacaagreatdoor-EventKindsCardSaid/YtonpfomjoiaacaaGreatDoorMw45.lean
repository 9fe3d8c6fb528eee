/- A part of the proof. -/
import Derived.Test.YtonpfomjoiaacaaGreatDoorMw39
set_option maxRecDepth 100000
set_option maxHeartbeats 4000000
set_option linter.unusedSectionVars false
set_option linter.unusedVariables false
set_option linter.unusedSimpArgs false
section
namespace Go.Proofs.YtonpfomjoiaacaaGreatDoor
open Go Go.iG Go.RowKit
def Ae:List ByteArray:=[dN,bQ,fQ,fK,fF,dU,iK,aO,dK]
theorem Xf{e:EV}(hs:D9 e)(hi:e.is=true)(i:Nat)(h:i<9):∃o:V,aH (aL e) (Ae.getD i ⟨#[]⟩)=(o,true)/\∀j:Int,j≠o.k->ic (dE (aQ (aL e) (Ae.getD i ⟨#[]⟩) (o6 j)))=(zeroE,15):=by
 have hb:=fD e
 have ho:=lS e
 have key:∀(f:ByteArray) (kk:Int) (o:V),(f,kk)∈oG->f≠aY->o.k=kk->aH (aL e) f=(o,true)->∃o:V,aH (aL e) f=(o,true)/\∀j:Int,j≠o.k->ic (dE (aQ (aL e) f (o6 j)))=(zeroE,15):=λf kk o h1 h2 h3 h4=>⟨o,h4,λj hj=>Un ho h1 h2 (by show j≠kk;rw[<-h3];exact hj)⟩
 match i,h with
 |0,_=>exact key dN 3 _ (by simp[oG]) (by decide) U hb.ty
 |1,_=>exact key bQ 3 _ (by simp[oG]) (by decide) U hb.sender
 |2,_=>exact key fQ 3 _ (by simp[oG]) (by decide) U hb.room
 |3,_=>exact key fK 4 _ (by simp[oG]) (by decide) U hb.prev
 |4,_=>exact key fF 4 _ (by simp[oG]) (by decide) U hb.bL
 |5,_=>exact key dU 2 _ (by simp[oG]) (by decide) U hb.depth
 |6,_=>exact key iK 2 _ (by simp[oG]) (by decide) U hb.time
 |7,_=>exact key aO 5 _ (by simp[oG]) (by decide) hs.b5 hb.body
 |8,_=>
  refine⟨dz e.key,by have:=hb.st;rw[if_pos hi] at this;exact this,λj hj=>Rh ho hj⟩
theorem OW:∀s∈Ae,s.size<=20:=by decide
theorem aca{e:EV}(h:ma e=true)(hk:e.key.size<=80):ma {e with is:=true}=true:=by
 unfold ma Bu at h⊢
 simp only[Bool.and_eq_true] at h⊢
 exact⟨h.1,by rw[decide_eq_true hk];rfl⟩
theorem smr_is{e:EV}(h:D9 e):D9 {e with is:=true}:=⟨⟨h.prev,h.bL,h.txt,h.num,h.wt,h.deep,h.fits,h.o,h.few⟩,h.user,h.rm,h.pa,h.aa,h.b5⟩
theorem Rw(c:List Int)(k at_:Int)(hc:wy c)(hk0:0<=k)(hk1:k<=255)(ha0:0<=at_)(ha1:at_<=255)(H:Hp)(hG:fA H):au Tryz.prog 6 [yM c,.v (.int .u8 k),.v (.int .u8 at_)] H (bB H (.v (.bool true))):=by
 have ev:=λH=>vP c hc k hk0 (by omega) H
 obtain⟨hs0,hf0⟩:=vF hc k hk0 (by omega:k<256)
 have hs:=smr_is hs0
 have hf:=aca hf0 (Ih hc k).2
 have mk:=λH=>qX _ hs.toSm H
 have m0:=Int.tmod_nonneg 9 ha0
 have m1:=Int.tmod_lt_of_pos at_ (by decide:(0:Int)<9)
 obtain⟨o,ho,hne⟩:=Xf hs rfl (at_.tmod 9).toNat (by omega)
 have Ij:=l8 Ae (at_.tmod 9).toNat (by show _<9;omega)
 have hks:(Ae.getD (at_.tmod 9).toNat ⟨#[]⟩).size<=20:=lK OW _
 generalize Ae.getD (at_.tmod 9).toNat ⟨#[]⟩=key at*
 have gt:∀H,au Tryz.prog 27 [.agg (aC (aL {dx c k with is:=true})),.v (.string key)] H (bB H (.kX [.agg (aC o),.v (.bool true)])):=λH=>by
  have:=I4 _ hs.make.fits key H
  rwa [ho] at this
 have wi:∀(j:Int) H,au Tryz.prog 18 [.agg (aC (aL {dx c k with is:=true})),.v (.string key),.agg (aC (o6 j))] H (bB H (.agg (aC (aQ (aL {dx c k with is:=true}) key (o6 j))))):=λj H=>jb _ hs.make.fits hs.make.ev.keys key (o6 j) H
 have si:=λ(j:Int) H=>by
  obtain⟨r1,_⟩:=qa hs.toSm hks (Ez j).1 (Ez j).2.1 (Ez j).2.2
  exact vE _ r1.fits r1.ev.keys r1.CS H
 have ri:=λ(j:Int) H h=>iO _ (aa3 hs hks j) H h
 have r62:=λH h=>iO _ (pG hs.make (fD _) hs).rw H h
 rw[Da hs hf] at r62
 have hpl:{nS {dx c k with is:=true} with id:=oI (aL {dx c k with is:=true})}={dx c k with is:=true,id:=oI (aL {dx c k with is:=true})}:=rfl
 rw[hpl] at r62
 generalize hx:dx c k=x at*
 have hp1:=hs.prev.1
 have hp2:=hs.bL.1
 simp only at hp1 hp2 r62
 generalize oI (aL {x with is:=true})=xid at*
 generalize aL {x with is:=true}=v at*
 clear hs hf hs0 hf0 hks hpl hx ho
 obtain⟨xi,xt,xk,xs,xu,xr,xp,xa,xd,xm,xb⟩:=x
 obtain⟨v0,v1,v2,v3,v4⟩:=v
 obtain⟨o0,o1,o2,o3,o4⟩:=o
 obtain⟨b0,b1,b2,b3,b4⟩:=xb
 simp only at mk r62 hp1 hp2
 have hl1:(xp.map encS).length=xp.length:=List.length_map ..
 have hl2:(xa.map encS).length=xa.length:=List.length_map ..
 refine aF (n:=88) (H0:=H) (I:=[]) Tryz.func6 (by kernel_rfl) U (by rw[Tryz.ntmps6];rfl) .nil<|?_
 refine Q.rg<|Q.as U<|Q.nt<|Q.rg<|S.qu (Z.eq (u':=strs Ae) (Z.bl dQ U U (bz U)) U)<|Q.as U<|Q.nt<|Q.rg<|Q.mv U<|Q.mv U<|S.qu (Z.call U U (λH=>ev H))<|S.dd<|D.al z28 U U U λp8=>S.s<|D.st 0 di U U U U U U U U λ_=>Q.nt<|Q.rg<|Q.fa jW U<|S.s<|D.st 0 oo U U U U U U U U λ_=>Q.nt<|Q.rg<|S.qu (Z.bW 0 di U U U)<|S.qu (Z.call U U (λH=>mk H))<|S.dd<|D.al z26 U U U λp9=>S.s<|D.st 0 av U U U U U U U U λ_=>Q.nt<|Q.rg<|Q.mv U<|Q.mv U<|Q.bi U U U<|S.qu (Z.ia aZ U U (by omega) Ij (by rfl))<|?_
 refine S.qu (Z.fO dW U)<|Q.as U<|Q.nt<|Q.rg<|S.qu (Z.bW 0 av U U U)<|Q.mv U<|S.qu (Z.call U U (λH=>gt H))<|Q.mv U<|S.qu (Z.ex U U)<|S.qu (Z.ex U U)<|S.dd<|D.al z26 U U U λVX=>S.s<|D.st 0 av U U U U U U U U λ_=>Q.as U<|Q.nt<|S.sq<|Q.rg<|Q.as U<|Q.nt<|UW.block<|?_
 refine S.loop (λj:Nat=>[(13,.v (.int .i64 (j:Int))),(11,.ptr VX 0),(10,.v (.string key)),(9,.ptr p9 0),(8,.ptr p8 0)]) (λ_=>[(VX,.box 26 (aC (.mk o0 o1 o2 o3 o4))),(p9,.box 26 (aC (.mk v0 v1 v2 v3 v4))),(p8,.box 28 (gZ ⟨xi,xt,xk,true,xu,xr,xp,xa,xd,xm,.mk b0 b1 b2 b3 b4⟩))]) (λj=>j<=6) (λj=>6-j) 0 (Nat.zero_le _) ⟨rfl,rfl,rfl,rfl,rfl,trivial⟩ (by repeat (first|exact List.Sublist.refl _|exact List.nil_sublist _|refine .cons_cons _ ?_|refine .cons _ ?_)) ?_
 rintro j hj
 by_cases hlt:j<6
 ·have wj:=λH=>wi (j:Int) H
  have sj:=λH=>si (j:Int) H
  have rj:=λH h=>ri (j:Int) H h
  have hnj:=hne (j:Int)
  generalize dE (aQ (V.mk v0 v1 v2 v3 v4) key (o6 (j:Int)))=sv at*
  generalize aQ (V.mk v0 v1 v2 v3 v4) key (o6 (j:Int))=wv at*
  clear wi si ri hne
  obtain⟨s0,s1,s2,s3,s4⟩:=sv
  obtain⟨w0,w1,w2,w3,w4⟩:=wv
  have hr2:(j:Int)≠o0->(ic (.mk s0 s1 s2 s3 s4)).2=15:=λh=>by rw[hnj h]
  clear hnj
  generalize (ic (.mk s0 s1 s2 s3 s4)).2=r2 at*
  generalize (ic (.mk s0 s1 s2 s3 s4)).1=r1 at*
  obtain⟨zi,zt,zk,zs,zu,zr,zp,za,zd,zm,zb⟩:=r1
  obtain⟨c0,c1,c2,c3,c4⟩:=zb
  by_cases hjo:(j:Int)=o0
  ·refine S.sq<|Q.rg<|Q.mv U<|Q.bi U U U<|Q.nt<|S.cT U (decide_eq_true (by omega))<|UW.skip<|UQ.then<|S.sq<|UW.block<|Q.rg<|S.qu (Z.bW 1 av U U U)<|Q.mv U<|Q.mv U<|S.qu (Z.eq (u':=.agg (aC (o6 (j:Int)))) (Z.bd [0] gU U U U U U U) U)<|S.qu (Z.call U U (λH=>wj H))<|S.qu (Z.call U U (λH=>sj H))<|S.dd<|D.al z26 U U U λMx=>S.s<|D.st 0 av U U U U U U U U λ_=>Q.nt<|Q.rg<|S.qu (Z.bW 0 av U U U)<|S.qu (Z.bK U U (λ_ hS=>rj _ (hG.mono hS)))<|Q.mv U<|S.qu (Z.ex U U)<|S.qu (Z.ex U U)<|S.dd<|D.al z28 U U U λp15=>S.s<|D.st 0 di U U U U U U U U λ_=>Q.as U<|Q.nt<|Q.rg<|Q.mv U<|Q.fa bT U<|Q.lc 2 fB U U U<|Q.bi U U U<|Q.mv U<|S.tF 56 (mJ (by omega))<|Q.of<|Q.of<|Q.pk U U<|Q.nt<|S.cF U U<|UW.skip<|UQ.aB<|UQ.then<|S.rg<|Q.mv U<|S.qu (Z.add (r:=((j+1:Nat):Int)) U U (IntWalk.i64_in _ (by omega)))<|Q.as U<|US.nil<|?_
   refine S.back (j+1) ⟨rfl,rfl,rfl,rfl,rfl,trivial⟩ (by repeat (first|exact List.Sublist.refl _|exact List.nil_sublist _|refine .cons_cons _ ?_|refine .cons _ ?_)) (by omega) (by omega)
  ·have hr15:=hr2 hjo
   subst hr15
   refine S.sq<|Q.rg<|Q.mv U<|Q.bi U U U<|Q.nt<|S.cT U (decide_eq_true (by omega))<|UW.skip<|UQ.then<|S.sq<|UW.block<|Q.rg<|S.qu (Z.bW 1 av U U U)<|Q.mv U<|Q.mv U<|S.qu (Z.eq (u':=.agg (aC (o6 (j:Int)))) (Z.bd [0] gU U U U U U U) U)<|S.qu (Z.call U U (λH=>wj H))<|S.qu (Z.call U U (λH=>sj H))<|S.dd<|D.al z26 U U U λMx=>S.s<|D.st 0 av U U U U U U U U λ_=>Q.nt<|Q.rg<|S.qu (Z.bW 0 av U U U)<|S.qu (Z.bK U U (λ_ hS=>rj _ (hG.mono hS)))<|Q.mv U<|S.qu (Z.ex U U)<|S.qu (Z.ex U U)<|S.dd<|D.al z28 U U U λp15=>S.s<|D.st 0 di U U U U U U U U λ_=>Q.as U<|Q.nt<|Q.rg<|Q.mv U<|Q.fa bT U<|Q.lc 2 fB U U U<|Q.bi U U U<|Q.mv U<|S.tT 56 (rP (by omega))<|Q.on (Z.mv U)<|Q.on (Z.bi U U U)<|Q.pk U U<|Q.nt<|S.cF U (mJ (by omega))<|UW.skip<|UQ.aB<|UQ.then<|S.rg<|Q.mv U<|S.qu (Z.add (r:=((j+1:Nat):Int)) U U (IntWalk.i64_in _ (by omega)))<|Q.as U<|US.nil<|?_
   refine S.back (j+1) ⟨rfl,rfl,rfl,rfl,rfl,trivial⟩ (by repeat (first|exact List.Sublist.refl _|exact List.nil_sublist _|refine .cons_cons _ ?_|refine .cons _ ?_)) (by omega) (by omega)
 ·focus
   refine S.sq<|Q.rg<|Q.mv U<|Q.bi U U U<|Q.nt<|S.cF U (decide_eq_false (by omega))<|UW.exit<|UQ.pass<|UQ.pass<|UQ.here<|UQ.then<|Q.rg<|S.qu (Z.bW 1 av U U U)<|S.qu (Z.bK U U (λ_ hS=>r62 _ (hG.mono hS)))<|Q.mv U<|S.qu (Z.ex U U)<|S.qu (Z.ex U U)<|S.dd<|D.al z28 U U U λp17=>S.s<|D.st 0 di U U U U U U U U λ_=>Q.as U<|Q.nt<|Q.rg<|S.qu (Z.bK U U (λ_ hS=>ig _ (hG.mono hS)))<|Q.mv U<|Q.on (Z.mv U)<|Q.on (Z.bi U U U)<|Q.pk U U<|Q.mv U<|?_
   refine S.tE 70 (λXg=>?_) (λXg=>?_)
   rotate_left
   omega
   refine Q.on (Z.fa oH U)<|Q.on (Z.dM 0 dB U U U)<|Q.on (Z.fM aZ U)<|Q.on (Z.fa oH U)<|Q.on (Z.dM 3 dB U U U)<|Q.on (Z.fM aZ U)<|Q.on (Z.bi U U U)<|Q.pk U U<|Q.mv U<|?_
   refine S.tE 79 (λV5=>?_) (λV5=>?_)
   rotate_left
   contradiction
   refine Q.on (Z.fa o5 U)<|Q.on (Z.dM 0 dB U U U)<|Q.on (Z.fM aZ U)<|Q.on (Z.fa o5 U)<|Q.on (Z.dM 3 dB U U U)<|Q.on (Z.fM aZ U)<|Q.on (Z.bi U U U)<|Q.pk U U<|Q.as U<|Q.nt<|UW.ret<|S.bH (λ_=>ak U U)<|?_
   focus (rw[beq_self_eq_true];done)
end Go.Proofs.YtonpfomjoiaacaaGreatDoor
end
