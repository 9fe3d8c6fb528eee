/- A part of the proof. -/
import Derived.Test.YtbooeongacgnbaaGreatDoorMw22
set_option maxRecDepth 100000
set_option maxHeartbeats 4000000
set_option linter.unusedSectionVars false
set_option linter.unusedVariables false
set_option linter.unusedSimpArgs false
section
namespace Go.Proofs.YtbooeongacgnbaaGreatDoor
open Go Go.gW Go.RowKit
theorem MH(c:Int)(h0:0<=c)(h1:c<256)(H:Hp):F Tryz.prog 157 [.v (.int .u8 c)] H (bn H (.v (.int .i64 (ed c)))):=by
 unfold ed
 by_cases hA:48<=c/\c<=57
 ·rw[if_pos hA]
  obtain⟨hA1,hA2⟩:=hA
  refine aA (n:=35) (H0:=H) (M:=[]) Tryz.func157 (by kernel_rfl) U (by rw[Tryz.ntmps157];rfl) .nil<|?_
  focus
   refine Q.rg<|Q.as U<|Q.nt<|S.sq<|UW.block<|Q.rg<|Q.mv U<|Q.bi U U U<|Q.mv U<|?_
   refine S.tD 6 (λhc6=>?_) (λhc6=>?_)
   rotate_left
   omega
   refine Q.on (Z.mv U)<|Q.on (Z.bi U U U)<|Q.pk U U<|Q.as U<|Q.nt<|S.cT U (decide_eq_true (by omega))<|Q.rg<|Q.mv U<|S.qu (Z.sub (r:=c-48) U U (IntWalk.u8_in _ (by omega)))<|S.qu (Z.cv (r:=c-48) Tryz.underlying3 U (IntWalk.i64_in _ (by omega)) (by kernel_rfl))<|Q.as U<|Q.nt<|UW.ret<|UQ.az<|UQ.aj<|S.bG (λ_=>au U U)<|?_
   rfl
 ·rw[if_neg hA]
  by_cases hB:97<=c/\c<=102
  ·rw[if_pos hB]
   obtain⟨hB1,hB2⟩:=hB
   refine aA (n:=35) (H0:=H) (M:=[]) Tryz.func157 (by kernel_rfl) U (by rw[Tryz.ntmps157];rfl) .nil<|?_
   focus
    refine Q.rg<|Q.as U<|Q.nt<|S.sq<|UW.block<|Q.rg<|Q.mv U<|Q.bi U U U<|Q.mv U<|?_
    refine S.tD 6 (λhc6=>?_) (λhc6=>?_)
    rotate_left
    omega
    refine Q.on (Z.mv U)<|Q.on (Z.bi U U U)<|Q.pk U U<|Q.as U<|Q.nt<|S.cF U (decide_eq_false (by omega))<|Q.rg<|Q.mv U<|Q.bi U U U<|Q.mv U<|?_
    refine S.tD 16 (λhc16=>?_) (λhc16=>?_)
    rotate_left
    omega
    refine Q.on (Z.mv U)<|Q.on (Z.bi U U U)<|Q.pk U U<|Q.as U<|Q.nt<|S.cT U (decide_eq_true (by omega))<|Q.rg<|Q.mv U<|S.qu (Z.sub (r:=c-97) U U (IntWalk.u8_in _ (by omega)))<|S.qu (Z.cv (r:=c-97) Tryz.underlying3 U (IntWalk.i64_in _ (by omega)) (by kernel_rfl))<|S.qu (Z.add (r:=c-87) U U (Eq.trans (IntWalk.i64_in _ (by omega)) (by omega)))<|Q.as U<|Q.nt<|UW.ret<|UQ.az<|UQ.aj<|S.bG (λ_=>au U U)<|?_
    rfl
  ·rw[if_neg hB]
   by_cases hC:65<=c/\c<=70
   ·rw[if_pos hC]
    obtain⟨ZA,hC2⟩:=hC
    refine aA (n:=35) (H0:=H) (M:=[]) Tryz.func157 (by kernel_rfl) U (by rw[Tryz.ntmps157];rfl) .nil<|?_
    focus
     refine Q.rg<|Q.as U<|Q.nt<|S.sq<|UW.block<|Q.rg<|Q.mv U<|Q.bi U U U<|Q.mv U<|?_
     refine S.tD 6 (λhc6=>?_) (λhc6=>?_)
     rotate_left
     omega
     refine Q.on (Z.mv U)<|Q.on (Z.bi U U U)<|Q.pk U U<|Q.as U<|Q.nt<|S.cF U (decide_eq_false (by omega))<|Q.rg<|Q.mv U<|Q.bi U U U<|Q.mv U<|?_
     refine S.tD 16 (λhc16=>?_) (λhc16=>?_)
     omega
     refine Q.of<|Q.of<|Q.pk U U<|Q.as U<|Q.nt<|S.cF U U<|Q.rg<|Q.mv U<|Q.bi U U U<|Q.mv U<|?_
     refine S.tD 27 (λhc27=>?_) (λhc27=>?_)
     rotate_left
     omega
     refine Q.on (Z.mv U)<|Q.on (Z.bi U U U)<|Q.pk U U<|Q.as U<|Q.nt<|S.cT U (decide_eq_true (by omega))<|Q.rg<|Q.mv U<|S.qu (Z.sub (r:=c-65) U U (IntWalk.u8_in _ (by omega)))<|S.qu (Z.cv (r:=c-65) Tryz.underlying3 U (IntWalk.i64_in _ (by omega)) (by kernel_rfl))<|S.qu (Z.add (r:=c-55) U U (Eq.trans (IntWalk.i64_in _ (by omega)) (by omega)))<|Q.as U<|Q.nt<|UW.ret<|UQ.az<|UQ.aj<|S.bG (λ_=>au U U)<|?_
     rfl
   ·rw[if_neg hC]
    refine aA (n:=35) (H0:=H) (M:=[]) Tryz.func157 (by kernel_rfl) U (by rw[Tryz.ntmps157];rfl) .nil<|?_
    focus
     refine Q.rg<|Q.as U<|Q.nt<|S.sq<|UW.block<|Q.rg<|Q.mv U<|Q.bi U U U<|Q.mv U<|?_
     refine S.tD 6 (λhc6=>?_) (λhc6=>?_)
     refine Q.on (Z.mv U)<|Q.on (Z.bi U U U)<|Q.pk U U<|Q.as U<|Q.nt<|S.cF U (decide_eq_false (by omega))<|Q.rg<|Q.mv U<|Q.bi U U U<|Q.mv U<|?_
     refine S.tD 16 (λhc16=>?_) (λhc16=>?_)
     refine Q.on (Z.mv U)<|Q.on (Z.bi U U U)<|Q.pk U U<|Q.as U<|Q.nt<|S.cF U (decide_eq_false (by omega))<|Q.rg<|Q.mv U<|Q.bi U U U<|Q.mv U<|?_
     refine S.tD 27 (λhc27=>?_) (λhc27=>?_)
     rotate_left
     omega
     rotate_right
     refine Q.on (Z.mv U)<|Q.on (Z.bi U U U)<|Q.pk U U<|Q.as U<|Q.nt<|S.cF U (decide_eq_false (by omega))<|UW.skip<|UQ.aI<|UQ.then<|Q.rg<|Q.as U<|Q.nt<|UW.ret<|S.bG (λ_=>au U U)<|?_
     rfl
     refine Q.of<|Q.of<|Q.pk U U<|Q.as U<|Q.nt<|S.cF U U<|Q.rg<|Q.mv U<|Q.bi U U U<|Q.mv U<|?_
     refine S.tD 27 (λhc27=>?_) (λhc27=>?_)
     refine Q.on (Z.mv U)<|Q.on (Z.bi U U U)<|Q.pk U U<|Q.as U<|Q.nt<|S.cF U (decide_eq_false (by omega))<|UW.skip<|UQ.aI<|UQ.then<|Q.rg<|Q.as U<|Q.nt<|UW.ret<|S.bG (λ_=>au U U)<|?_
     rfl
     refine Q.of<|Q.of<|Q.pk U U<|Q.as U<|Q.nt<|S.cF U U<|UW.skip<|UQ.aI<|UQ.then<|Q.rg<|Q.as U<|Q.nt<|UW.ret<|S.bG (λ_=>au U U)<|?_
     rfl
     refine Q.of<|Q.of<|Q.pk U U<|Q.as U<|Q.nt<|S.cF U U<|Q.rg<|Q.mv U<|Q.bi U U U<|Q.mv U<|?_
     refine S.tD 16 (λhc16=>?_) (λhc16=>?_)
     omega
     refine Q.of<|Q.of<|Q.pk U U<|Q.as U<|Q.nt<|S.cF U U<|Q.rg<|Q.mv U<|Q.bi U U U<|Q.mv U<|?_
     refine S.tD 27 (λhc27=>?_) (λhc27=>?_)
     omega
     refine Q.of<|Q.of<|Q.pk U U<|Q.as U<|Q.nt<|S.cF U U<|UW.skip<|UQ.aI<|UQ.then<|Q.rg<|Q.as U<|Q.nt<|UW.ret<|S.bG (λ_=>au U U)<|?_
     rfl
theorem sG(c:Int): -1<=ed c/\ed c<=15:=by
 unfold ed
 repeat' split
 all_goals omega
def uN(u:ByteArray):Nat->Int
 |0=>0
 |j+1=>16*uN u j+ed (aO u ((2+j:Nat):Int))
theorem Tu(u:ByteArray):∀j,(∀i,i<j->0<=ed (aO u ((2+i:Nat):Int)))->0<=uN u j/\uN u j<(16^j:Nat)
 |0,_=>⟨by show(0:Int)<=0;decide,by show(0:Int)<((1:Nat):Int);decide⟩
 |j+1,h=>by
  obtain⟨h1,h2⟩:=Tu u j (λi hi=>h i (by omega))
  have h3:=h j (by omega)
  have h4:=(sG (aO u ((2+j:Nat):Int))).2
  have hp:(16:Nat)^(j+1)=16^j*16:=Nat.pow_succ ..
  have e:uN u (j+1)=16*uN u j+ed (aO u ((2+j:Nat):Int)):=rfl
  rw[e,hp]
  omega
theorem Xu(u:ByteArray)(j:Nat)(hj:j<=4)(h:∀i,i<j->0<=ed (aO u ((2+i:Nat):Int))):0<=uN u j/\uN u j<65536:=by
 obtain⟨h1,h2⟩:=Tu u j h
 have:(16:Nat)^j<=16^4:=Nat.pow_le_pow_right (by decide) hj
 have h3:(16:Nat)^4=65536:=by decide
 omega
theorem A8{u:ByteArray}(h:¬(6<=u.size/\aO u 0=92/\aO u 1=117)):aR u 0= -1:=by
 unfold aR;exact if_neg (λg=>h ⟨by omega,g.2.1,g.2.2⟩)
theorem Oy{u:ByteArray}{j:Nat}(hj:j<4)(h:ed (aO u ((2+j:Nat):Int))<0):aR u 0= -1:=by
 unfold aR
 by_cases g:0+6<=u.size/\aO u ((0:Nat):Int)=92/\aO u ((0+1:Nat):Int)=117
 ·rw[if_pos g]
  refine if_pos<|?_
  rcases(show j=0\/j=1\/j=2\/j=3 by omega) with rfl|rfl|rfl|rfl
  ·exact .inl h
  ·exact .inr (.inl h)
  ·exact .inr (.inr (.inl h))
  ·exact .inr (.inr (.inr h))
 ·exact if_neg g
theorem Oz{u:ByteArray}(h:6<=u.size/\aO u 0=92/\aO u 1=117)(hh:∀j,j<4->0<=ed (aO u ((2+j:Nat):Int))):aR u 0=uN u 4:=by
 have g:0+6<=u.size/\aO u ((0:Nat):Int)=92/\aO u ((0+1:Nat):Int)=117:=⟨by omega,h.2.1,h.2.2⟩
 have h0:=hh 0 (by decide)
 have h1:=hh 1 (by decide)
 have h2:=hh 2 (by decide)
 have h3:=hh 3 (by decide)
 unfold aR
 rw[if_pos g,if_neg]
 ·show _=16*(16*(16*(16*0+ed (aO u ((2+0:Nat):Int)))+ed (aO u ((2+1:Nat):Int)))+ed (aO u ((2+2:Nat):Int)))+ed (aO u ((2+3:Nat):Int))
  simp only[Nat.zero_add,Nat.add_zero,Nat.reduceAdd]
  omega
 ·simp only[Nat.zero_add,Nat.add_zero,Nat.reduceAdd] at h0 h1 h2 h3⊢
  omega
theorem OA(u:ByteArray)(h:6<=u.size):(u.extract 0 2).toList=(⟨#[92,117]⟩:ByteArray).toList↔aO u 0=92/\aO u 1=117:=by
 have e:u.extract 0 2=aM (aO u 0)++aM (aO u 1):=by
  have a:=nR u 0 (by omega)
  have b:=nR u 1 (by omega)
  have c:=Oi u 0 1 (by omega)
  rw[a,b] at c
  exact c.symm
 have ha:=gG u 0
 have hb:=gG u 1
 constructor
 ·intro g
  have g2:=kK g
  rw[e] at g2
  have g3:[UInt8.ofNat (aO u 0).toNat,UInt8.ofNat (aO u 1).toNat]=[92,117]:=congrArg (λz:ByteArray=>z.data.toList) g2
  injection g3 with x y
  injection y with y _
  have x2:=congrArg UInt8.toNat x
  have y2:=congrArg UInt8.toNat y
  simp only[UInt8.toNat_ofNat',UInt8.reduceToNat] at x2 y2
  omega
 ·rintro⟨x,y⟩
  rw[e,x,y];rfl
theorem CX(u:ByteArray)(Ll:u.size<=1000000)(H:Hp):F Tryz.prog 135 [.v (.string u)] H (bn H (.v (.int .i64 (aR u 0)))):=by
 have ZN:∀j:Nat,∀H,F Tryz.prog 157 [.v (.int .u8 (aO u ((2+j:Nat):Int)))] H (bn H (.v (.int .i64 (ed (aO u ((2+j:Nat):Int)))))):=λj H=>MH _ (gG u _).1 (gG u _).2 H
 by_cases h6:6<=u.size
 ·have hiff:=OA u h6
  by_cases hE:aO u 0=92/\aO u 1=117
  ·have hEq:=hiff.2 hE
   refine aA (n:=29) (H0:=H) (M:=[]) Tryz.func135 (by kernel_rfl) U (by rw[Tryz.ntmps135];rfl) .nil<|?_
   refine Q.rg<|Q.as U<|Q.nt<|S.sq<|Q.rg<|Q.mv U<|S.qu (Z.fC Tryz.underlying9 U)<|Q.bi U U U<|Q.mv U<|?_
   refine S.tD 9 (λAj=>?_) (λAj=>?_)
   omega
   refine Q.on (Z.mv U)<|Q.on (Z.slt Tryz.underlying9 U (.X9 (by omega) U) (by omega) (by omega))<|Q.on (Z.bs U U U)<|Q.pk U U<|Q.nt<|S.cF U (fE (by assumption))<|?_
   refine UW.skip<|UQ.then<|Q.rg<|Q.as U<|Q.nt<|S.sq<|Q.rg<|Q.as U<|Q.nt<|UW.block<|S.loop (λj:Nat=>[(3,.v (.int .i64 (uN u j))),(4,.v (.int .i64 ((2+j:Nat):Int))),(0,.v (.string u))]) (λ_=>[]) (λj=>j<=4/\∀i,i<j->0<=ed (aO u ((2+i:Nat):Int))) (λj=>4-j) 0 ⟨by omega,λi hi=>absurd hi (by omega)⟩ ⟨rfl,rfl,rfl,trivial⟩ (.refl _)<|?_
   rintro j ⟨hj,hall⟩
   by_cases Xv:j<4
   ·obtain⟨hb1,hb2⟩:=Xu u j hj hall
    have hx:=sG (aO u ((2+j:Nat):Int))
    obtain⟨hx1,hx2⟩:=hx
    by_cases hneg:ed (aO u ((2+j:Nat):Int))<0
    ·rw[Oy Xv hneg]
     refine S.sq<|Q.rg<|Q.mv U<|Q.bi U U U<|Q.nt<|S.cT U (decide_eq_true (by omega))<|UW.skip<|UQ.then<|S.sq<|UW.block<|Q.rg<|Q.mv U<|Q.mv U<|S.dd<|D.ib Tryz.underlying9 U U (by omega) (by omega) λh20=>S.qu (Z.call U U (λH=>ZN j H))<|Q.as U<|Q.nt<|S.sq<|Q.rg<|Q.mv U<|Q.bi U U U<|Q.nt<|S.cT U (decide_eq_true (by omega))<|Q.rg<|Q.as U<|Q.nt<|UW.ret<|UQ.aj<|UQ.az<|UQ.aj<|UQ.aj<|UQ.az<|UQ.aj<|S.bG (λ_=>au U U)<|?_
     rfl
    ·have hq:j+1<=4/\∀i,i<j+1->0<=ed (aO u ((2+i:Nat):Int)):=⟨Xv,λi hi=>by
      by_cases hij:i=j
      ·subst hij;omega
      ·exact hall i (by omega)⟩
     refine S.sq<|Q.rg<|Q.mv U<|Q.bi U U U<|Q.nt<|S.cT U (decide_eq_true (by omega))<|UW.skip<|UQ.then<|S.sq<|UW.block<|Q.rg<|Q.mv U<|Q.mv U<|S.dd<|D.ib Tryz.underlying9 U U (by omega) (by omega) λh20=>S.qu (Z.call U U (λH=>ZN j H))<|Q.as U<|Q.nt<|S.sq<|Q.rg<|Q.mv U<|Q.bi U U U<|Q.nt<|S.cF U (decide_eq_false (by omega))<|UW.skip<|UQ.then<|S.rg<|Q.mv U<|S.qu (Z.mul (r:=16*uN u j) U U (IntWalk.i64_in _ (by omega)))<|Q.mv U<|S.qu (Z.add (r:=uN u (j+1)) U U (IntWalk.i64_in _ (by omega)))<|Q.as U<|US.nil<|UQ.aI<|UQ.then<|S.rg<|Q.mv U<|S.qu (Z.add (r:=((2+(j+1):Nat):Int)) U U (IntWalk.i64_in _ (by omega)))<|Q.as U<|US.nil<|?_
     refine S.back (j+1) ⟨rfl,rfl,rfl,trivial⟩ (.refl _) (by omega) (by omega)
   ·have YZ:j=4:=by omega
    subst YZ
    rw[Oz ⟨h6,hE⟩ hall]
    refine S.sq<|Q.rg<|Q.mv U<|Q.bi U U U<|Q.nt<|S.cF U (decide_eq_false (by omega))<|UW.exit<|UQ.pass<|UQ.pass<|UQ.here<|UQ.then<|Q.rg<|Q.mv U<|Q.as U<|Q.nt<|UW.ret<|S.bG (λ_=>au U U)<|?_
    rfl
  ·have hEq:¬(u.extract 0 2).toList=(⟨#[92,117]⟩:ByteArray).toList:=λg=>hE (hiff.1 g)
   rw[A8 (λg=>hE g.2)]
   refine aA (n:=29) (H0:=H) (M:=[]) Tryz.func135 (by kernel_rfl) U (by rw[Tryz.ntmps135];rfl) .nil<|?_
   refine Q.rg<|Q.as U<|Q.nt<|S.sq<|Q.rg<|Q.mv U<|S.qu (Z.fC Tryz.underlying9 U)<|Q.bi U U U<|Q.mv U<|?_
   refine S.tD 9 (λAj=>?_) (λAj=>?_)
   omega
   refine Q.on (Z.mv U)<|Q.on (Z.slt Tryz.underlying9 U (.X9 (by omega) U) (by omega) (by omega))<|Q.on (Z.bs U U U)<|Q.pk U U<|Q.nt<|S.cT U (jM (by assumption))<|?_
   refine Q.rg<|Q.as U<|Q.nt<|UW.ret<|UQ.aj<|S.bG (λ_=>au U U)<|?_
   rfl
 ·rw[A8 (λg=>h6 g.1)]
  refine aA (n:=29) (H0:=H) (M:=[]) Tryz.func135 (by kernel_rfl) U (by rw[Tryz.ntmps135];rfl) .nil<|?_
  focus
   refine Q.rg<|Q.as U<|Q.nt<|S.sq<|Q.rg<|Q.mv U<|S.qu (Z.fC Tryz.underlying9 U)<|Q.bi U U U<|Q.mv U<|?_
   refine S.tD 9 (λAj=>?_) (λAj=>?_)
   rotate_left
   omega
   refine Q.of<|Q.of<|Q.of<|Q.pk U U<|Q.nt<|S.cT U U<|Q.rg<|Q.as U<|Q.nt<|UW.ret<|UQ.aj<|S.bG (λ_=>au U U)<|?_
   rfl
theorem RF(a b c:Int)(ha:0<=a/\a<256)(hb:0<=b/\b<256)(hc:0<=c/\c<256):AV.sl [[.v (.int .u8 a)],[.v (.int .u8 b)],[.v (.int .u8 c)]]=.sl (aU (aM a++aM b++aM c)):=by
 rw[df,df,bM ha.1 ha.2,bM hb.1 hb.2,bM hc.1 hc.2];rfl
theorem VL(a b c d:Int)(ha:0<=a/\a<256)(hb:0<=b/\b<256)(hc:0<=c/\c<256)(hd:0<=d/\d<256):AV.sl [[.v (.int .u8 a)],[.v (.int .u8 b)],[.v (.int .u8 c)],[.v (.int .u8 d)]]=.sl (aU (aM a++aM b++aM c++aM d)):=by
 rw[df,df,df,bM ha.1 ha.2,bM hb.1 hb.2,bM hc.1 hc.2,bM hd.1 hd.2];rfl
theorem A9(r:Int)(h0:0<=r)(h1:r<1114112)(H:Hp):F Tryz.prog 136 [.v (.int .i64 r)] H (bn H (.v (.string (bF r)))):=by
 unfold bF
 by_cases hA:r<128
 ·rw[if_pos hA]
  refine aA (n:=61) (H0:=H) (M:=[]) Tryz.func136 (by kernel_rfl) U (by rw[Tryz.ntmps136];rfl) .nil<|?_
  refine Q.rg<|Q.as U<|Q.nt<|S.sq<|UW.block<|Q.rg<|Q.mv U<|Q.bi U U U<|Q.as U<|Q.nt<|S.cT U (decide_eq_true (by omega))<|Q.rg<|Q.mv U<|S.qu (Z.cv (r:=r) Tryz.underlying5 U (IntWalk.u8_in _ (by omega)) (by kernel_rfl))<|S.qu (Z.bl iT U U (dx U))<|S.qu (Z.PS (s:=aM r) Tryz.underlying22 Tryz.underlying5 Tryz.underlying9 (congrArg some (CB _ ⟨by omega,by omega⟩)))<|Q.as U<|Q.nt<|UW.ret<|UQ.az<|UQ.aj<|S.bG (λ_=>au U U)<|?_
  rfl
 ·rw[if_neg hA]
  by_cases hB:r<2048
  ·rw[if_pos hB]
   refine aA (n:=61) (H0:=H) (M:=[]) Tryz.func136 (by kernel_rfl) U (by rw[Tryz.ntmps136];rfl) .nil<|?_
   refine Q.rg<|Q.as U<|Q.nt<|S.sq<|UW.block<|Q.rg<|Q.mv U<|Q.bi U U U<|Q.as U<|Q.nt<|S.cF U (decide_eq_false (by omega))<|Q.rg<|Q.mv U<|Q.bi U U U<|Q.as U<|Q.nt<|S.cT U (decide_eq_true (by omega))<|Q.rg<|Q.mv U<|S.qu (Z.eq (u':=.v (.int .i64 (r/64))) (Z.bi (vr:=.int .i64 (IntKind.i64.wrap (r.tdiv 64))) U U U) (by rw[Int.tdiv_eq_ediv_of_nonneg h0,IntWalk.i64_in _ (by omega)]))<|?_
   refine S.qu (Z.add (r:=192+r/64) U U (IntWalk.i64_in _ (by omega)))<|S.qu (Z.cv (r:=192+r/64) Tryz.underlying5 U (IntWalk.u8_in _ (by omega)) (by kernel_rfl))<|Q.mv U<|S.qu (Z.eq (u':=.v (.int .i64 (r % 64))) (Z.bi (vr:=.int .i64 ((r).tmod 64)) U U U) (by rw[Int.tmod_eq_emod_of_nonneg (by omega)]))<|?_
   refine S.qu (Z.add (r:=128+r % 64) U U (IntWalk.i64_in _ (by omega)))<|S.qu (Z.cv (r:=128+r % 64) Tryz.underlying5 U (IntWalk.u8_in _ (by omega)) (by kernel_rfl))<|S.qu (Z.bl iT U U (dx U))<|S.qu (Z.PS (s:=aM (192+r/64)++aM (128+r % 64)) Tryz.underlying22 Tryz.underlying5 Tryz.underlying9 (congrArg some (Tn _ _ ⟨by omega,by omega⟩ ⟨by omega,by omega⟩)))<|Q.as U<|Q.nt<|UW.ret<|UQ.az<|UQ.aj<|S.bG (λ_=>au U U)<|?_
   rfl
  ·rw[if_neg hB]
   by_cases hC:r<65536
   ·rw[if_pos hC]
    refine aA (n:=61) (H0:=H) (M:=[]) Tryz.func136 (by kernel_rfl) U (by rw[Tryz.ntmps136];rfl) .nil<|?_
    refine Q.rg<|Q.as U<|Q.nt<|S.sq<|UW.block<|Q.rg<|Q.mv U<|Q.bi U U U<|Q.as U<|Q.nt<|S.cF U (decide_eq_false (by omega))<|Q.rg<|Q.mv U<|Q.bi U U U<|Q.as U<|Q.nt<|S.cF U (decide_eq_false (by omega))<|Q.rg<|Q.mv U<|Q.bi U U U<|Q.as U<|Q.nt<|S.cT U (decide_eq_true (by omega))<|Q.rg<|Q.mv U<|S.qu (Z.eq (u':=.v (.int .i64 (r/4096))) (Z.bi (vr:=.int .i64 (IntKind.i64.wrap (r.tdiv 4096))) U U U) (by rw[Int.tdiv_eq_ediv_of_nonneg h0,IntWalk.i64_in _ (by omega)]))<|?_
    refine S.qu (Z.add (r:=224+r/4096) U U (IntWalk.i64_in _ (by omega)))<|S.qu (Z.cv (r:=224+r/4096) Tryz.underlying5 U (IntWalk.u8_in _ (by omega)) (by kernel_rfl))<|Q.mv U<|S.qu (Z.eq (u':=.v (.int .i64 (r/64))) (Z.bi (vr:=.int .i64 (IntKind.i64.wrap (r.tdiv 64))) U U U) (by rw[Int.tdiv_eq_ediv_of_nonneg h0,IntWalk.i64_in _ (by omega)]))<|?_
    refine S.qu (Z.eq (u':=.v (.int .i64 (r/64 % 64))) (Z.bi (vr:=.int .i64 ((r/64).tmod 64)) U U U) (by rw[Int.tmod_eq_emod_of_nonneg (by omega)]))<|?_
    refine S.qu (Z.add (r:=128+r/64 % 64) U U (IntWalk.i64_in _ (by omega)))<|S.qu (Z.cv (r:=128+r/64 % 64) Tryz.underlying5 U (IntWalk.u8_in _ (by omega)) (by kernel_rfl))<|Q.mv U<|S.qu (Z.eq (u':=.v (.int .i64 (r % 64))) (Z.bi (vr:=.int .i64 ((r).tmod 64)) U U U) (by rw[Int.tmod_eq_emod_of_nonneg (by omega)]))<|?_
    refine S.qu (Z.add (r:=128+r % 64) U U (IntWalk.i64_in _ (by omega)))<|S.qu (Z.cv (r:=128+r % 64) Tryz.underlying5 U (IntWalk.u8_in _ (by omega)) (by kernel_rfl))<|S.qu (Z.bl iT U U (dx U))<|S.qu (Z.PS (s:=aM (224+r/4096)++aM (128+r/64 % 64)++aM (128+r % 64)) Tryz.underlying22 Tryz.underlying5 Tryz.underlying9 (congrArg some (RF _ _ _ ⟨by omega,by omega⟩ ⟨by omega,by omega⟩ ⟨by omega,by omega⟩)))<|Q.as U<|Q.nt<|UW.ret<|UQ.az<|UQ.aj<|S.bG (λ_=>au U U)<|?_
    rfl
   ·rw[if_neg hC]
    refine aA (n:=61) (H0:=H) (M:=[]) Tryz.func136 (by kernel_rfl) U (by rw[Tryz.ntmps136];rfl) .nil<|?_
    refine Q.rg<|Q.as U<|Q.nt<|S.sq<|UW.block<|Q.rg<|Q.mv U<|Q.bi U U U<|Q.as U<|Q.nt<|S.cF U (decide_eq_false (by omega))<|Q.rg<|Q.mv U<|Q.bi U U U<|Q.as U<|Q.nt<|S.cF U (decide_eq_false (by omega))<|Q.rg<|Q.mv U<|Q.bi U U U<|Q.as U<|Q.nt<|S.cF U (decide_eq_false (by omega))<|UW.skip<|UQ.aI<|UQ.then<|Q.rg<|Q.mv U<|S.qu (Z.eq (u':=.v (.int .i64 (r/262144))) (Z.bi (vr:=.int .i64 (IntKind.i64.wrap (r.tdiv 262144))) U U U) (by rw[Int.tdiv_eq_ediv_of_nonneg h0,IntWalk.i64_in _ (by omega)]))<|?_
    refine S.qu (Z.add (r:=240+r/262144) U U (IntWalk.i64_in _ (by omega)))<|S.qu (Z.cv (r:=240+r/262144) Tryz.underlying5 U (IntWalk.u8_in _ (by omega)) (by kernel_rfl))<|Q.mv U<|S.qu (Z.eq (u':=.v (.int .i64 (r/4096))) (Z.bi (vr:=.int .i64 (IntKind.i64.wrap (r.tdiv 4096))) U U U) (by rw[Int.tdiv_eq_ediv_of_nonneg h0,IntWalk.i64_in _ (by omega)]))<|?_
    refine S.qu (Z.eq (u':=.v (.int .i64 (r/4096 % 64))) (Z.bi (vr:=.int .i64 ((r/4096).tmod 64)) U U U) (by rw[Int.tmod_eq_emod_of_nonneg (by omega)]))<|?_
    refine S.qu (Z.add (r:=128+r/4096 % 64) U U (IntWalk.i64_in _ (by omega)))<|S.qu (Z.cv (r:=128+r/4096 % 64) Tryz.underlying5 U (IntWalk.u8_in _ (by omega)) (by kernel_rfl))<|Q.mv U<|S.qu (Z.eq (u':=.v (.int .i64 (r/64))) (Z.bi (vr:=.int .i64 (IntKind.i64.wrap (r.tdiv 64))) U U U) (by rw[Int.tdiv_eq_ediv_of_nonneg h0,IntWalk.i64_in _ (by omega)]))<|?_
    refine S.qu (Z.eq (u':=.v (.int .i64 (r/64 % 64))) (Z.bi (vr:=.int .i64 ((r/64).tmod 64)) U U U) (by rw[Int.tmod_eq_emod_of_nonneg (by omega)]))<|?_
    refine S.qu (Z.add (r:=128+r/64 % 64) U U (IntWalk.i64_in _ (by omega)))<|S.qu (Z.cv (r:=128+r/64 % 64) Tryz.underlying5 U (IntWalk.u8_in _ (by omega)) (by kernel_rfl))<|Q.mv U<|S.qu (Z.eq (u':=.v (.int .i64 (r % 64))) (Z.bi (vr:=.int .i64 ((r).tmod 64)) U U U) (by rw[Int.tmod_eq_emod_of_nonneg (by omega)]))<|?_
    refine S.qu (Z.add (r:=128+r % 64) U U (IntWalk.i64_in _ (by omega)))<|S.qu (Z.cv (r:=128+r % 64) Tryz.underlying5 U (IntWalk.u8_in _ (by omega)) (by kernel_rfl))<|S.qu (Z.bl iT U U (dx U))<|S.qu (Z.PS (s:=aM (240+r/262144)++aM (128+r/4096 % 64)++aM (128+r/64 % 64)++aM (128+r % 64)) Tryz.underlying22 Tryz.underlying5 Tryz.underlying9 (congrArg some (VL _ _ _ _ ⟨by omega,by omega⟩ ⟨by omega,by omega⟩ ⟨by omega,by omega⟩ ⟨by omega,by omega⟩)))<|Q.as U<|Q.nt<|UW.ret<|S.bG (λ_=>au U U)<|?_
    rfl
end Go.Proofs.YtbooeongacgnbaaGreatDoor
end
