/- A part of the proof. -/
import Derived.Test.YtbooeongacgnbaaGreatDoorMw20
set_option maxRecDepth 100000
set_option maxHeartbeats 4000000
set_option linter.unusedSectionVars false
set_option linter.unusedVariables false
set_option linter.unusedSimpArgs false
section
namespace Go.Proofs.YtbooeongacgnbaaGreatDoor
open Go Go.gW Go.RowKit
theorem jJ(s:ByteArray)(p d:Nat)(e e2:Int)(H:Hp):F Tryz.prog 44 [.agg (tq s p e d),.v (.int .i64 e2)] H (bn H (.agg (tq s p e2 d))):=by
 refine aA (n:=8) (H0:=H) (M:=[]) Tryz.func44 (by kernel_rfl) U (by rw[Tryz.ntmps44];rfl) .nil<|?_
 refine Q.rg<|S.dd<|D.box U U U λp2=>S.dd<|D.al z72 U U U λp4=>Q.nt<|Q.rg<|Q.mv U<|Q.fa dz U<|S.s<|D.st 1 bC U U U U U U U U λ_=>Q.nt<|Q.rg<|S.qu (Z.bg 1 aF U U U)<|S.s<|D.st 0 aF U U U U U U U U λ_=>Q.nt<|UW.ret<|S.bG (λhd=>di (k:=0) hd U U U fM fO)<|?_
 rfl
theorem mY(s:ByteArray)(p d:Nat)(c:Int)(hs:s.size<=1000000)(hp:p<=1000000)(H:Hp):F Tryz.prog 86 [.agg (dZ s p d),.v (.int .u8 c)] H (bn H (.agg (if bT s p c=true then dZ s (p+1) d else tq s p 11 d))):=by
 have hi:∀c H,F Tryz.prog 62 [.agg (dZ s p d),.v (.int .u8 c)] H (bn H (.v (.bool (bT s p c)))):=λc H=>ji s p d c hs H
 have hf:∀H,F Tryz.prog 44 [.agg (dZ s p d),.v (.int .i64 11)] H (bn H (.agg (tq s p 11 d))):=λH=>jJ s p d 0 11 H
 cases h1:bT s p c with
 |true=>
  rw[if_pos U]
  refine aA (n:=20) (H0:=H) (M:=[]) Tryz.func86 (by kernel_rfl) U (by rw[Tryz.ntmps86];rfl) .nil<|?_
  refine Q.rg<|S.dd<|D.box U U U λp2=>S.dd<|D.al z72 U U U λp4=>Q.nt<|S.sq<|Q.rg<|Q.fa dz U<|Q.lc 1 bC U U U<|Q.bi U U U<|Q.nt<|S.cF U (fE (by omega))<|UW.skip<|UQ.then<|S.sq<|Q.rg<|S.qu (Z.bg 1 aF U U U)<|Q.mv U<|S.qu (Z.tT (Z.call U U (λH=>hi c H)) h1)<|S.qu (Z.not U)<|Q.nt<|S.cF U U<|UW.skip<|UQ.then<|Q.rg<|Q.fa bB U<|Q.lc 1 bC U U U<|S.qu (Z.add (r:=((p+1:Nat):Int)) U U (IntWalk.i64_in _ (by omega)))<|Q.fa bB U<|S.s<|D.st 1 bC U U U U U U U U λ_=>Q.nt<|Q.rg<|S.qu (Z.bg 1 aF U U U)<|S.s<|D.st 0 aF U U U U U U U U λ_=>Q.nt<|UW.ret<|S.bG (λhd=>di (k:=0) hd U U U fM fO)<|?_
  rfl
 |false=>
  rw[if_neg (by decide)]
  refine aA (n:=20) (H0:=H) (M:=[]) Tryz.func86 (by kernel_rfl) U (by rw[Tryz.ntmps86];rfl) .nil<|?_
  refine Q.rg<|S.dd<|D.box U U U λp2=>S.dd<|D.al z72 U U U λp4=>Q.nt<|S.sq<|Q.rg<|Q.fa dz U<|Q.lc 1 bC U U U<|Q.bi U U U<|Q.nt<|S.cF U (fE (by omega))<|UW.skip<|UQ.then<|S.sq<|Q.rg<|S.qu (Z.bg 1 aF U U U)<|Q.mv U<|S.qu (Z.tF (Z.call U U (λH=>hi c H)) h1)<|S.qu (Z.not U)<|Q.nt<|S.cT U U<|Q.rg<|S.qu (Z.bg 1 aF U U U)<|S.qu (Z.call U U (λH=>hf H))<|S.s<|D.st 0 aF U U U U U U U U λ_=>Q.nt<|UW.ret<|UQ.aj<|S.bG (λhd=>di (k:=0) hd U U U fM fO)<|?_
  rfl
theorem uV(s:ByteArray)(p d:Nat)(e:Int)(he:e≠0)(c:Int)(H:Hp):F Tryz.prog 86 [.agg (tq s p e d),.v (.int .u8 c)] H (bn H (.agg (tq s p e d))):=by
 refine aA (n:=20) (H0:=H) (M:=[]) Tryz.func86 (by kernel_rfl) U (by rw[Tryz.ntmps86];rfl) .nil<|?_
 refine Q.rg<|S.dd<|D.box U U U λp2=>S.dd<|D.al z72 U U U λp4=>Q.nt<|S.sq<|Q.rg<|Q.fa dz U<|Q.lc 1 bC U U U<|Q.bi U U U<|Q.nt<|S.cT U (jM (by omega))<|Q.rg<|S.qu (Z.bg 1 aF U U U)<|S.s<|D.st 0 aF U U U U U U U U λ_=>Q.nt<|UW.ret<|UQ.aj<|S.bG (λhd=>di (k:=0) hd U U U fM fO)<|?_
 rfl
theorem fq(s:ByteArray)(p d:Nat)(e:Int)(he:e≠0)(H:Hp):F Tryz.prog 42 [.agg (tq s p e d)] H (bn H (.agg (tq s p e d))):=by
 have hi:∀c H,F Tryz.prog 62 [.agg (tq s p e d),.v (.int .u8 c)] H (bn H (.v (.bool false))):=λc H=>AQ s p d e he c H
 refine aA (n:=22) (H0:=H) (M:=[]) Tryz.func42 (by kernel_rfl) U (by rw[Tryz.ntmps42];rfl) .nil<|?_
 refine Q.rg<|S.dd<|D.box U U U λp1=>S.dd<|D.al z72 U U U λp2=>Q.nt<|S.sq<|UW.block<|S.loop (λ_:Nat=>[(1,.ptr p1 0),(2,.ptr p2 0)]) (λ_=>[(p2,.box 72 [.v (.string ⟨#[]⟩),.v (.int .i64 0),.v (.int .i64 0),.v (.int .i64 0)]),(p1,.box 72 (tq s p e d))]) (λ_=>True) (λj=>j) 0 trivial ⟨rfl,rfl,trivial⟩ (.refl _)<|?_
 intro j _
 refine S.sq<|Q.rg<|S.qu (Z.bg 1 aF U U U)<|S.qu (Z.call U U (λH=>hi 32 H))<|Q.mv U<|Q.on (Z.bg 1 aF U U U)<|Q.on (Z.call U U (λH=>hi 9 H))<|Q.pk U U<|Q.mv U<|Q.on (Z.bg 1 aF U U U)<|Q.on (Z.call U U (λH=>hi 10 H))<|Q.pk U U<|Q.mv U<|Q.on (Z.bg 1 aF U U U)<|Q.on (Z.call U U (λH=>hi 13 H))<|Q.pk U U<|Q.nt<|S.cF U U<|UW.exit<|UQ.pass<|UQ.pass<|UQ.here<|UQ.then<|Q.rg<|S.qu (Z.bg 1 aF U U U)<|S.s<|D.st 0 aF U U U U U U U U λ_=>Q.nt<|UW.ret<|S.bG (λhd=>di (k:=0) hd U U U fM fO)<|?_
 rfl
theorem Hm{s:ByteArray}{p:Nat}(h:p<s.size)(h1:48<=aO s (p:Int))(h2:aO s (p:Int)<=57):aT s p=aT s (p+1)+1:=by
 rw[aT.eq_def s p,dif_pos h,if_pos (by unfold AO;rw[decide_eq_true h1,decide_eq_true h2];rfl)]
theorem E9{s:ByteArray}{p:Nat}(h:p<s.size->aO s (p:Int)<48\/57<aO s (p:Int)):aT s p=0:=by
 rw[aT.eq_def s p]
 split
 ·rename_i hp
  rw[if_neg]
  unfold AO
  have:=h hp
  simp only[Bool.and_eq_true,decide_eq_true_eq]
  omega
 ·rfl
theorem ym(s:ByteArray)(p0 p d:Nat)(hs:s.size<=1000000)(hp:p<=s.size)(H:Hp):F Tryz.prog 66 [.agg (dZ s p0 d),.v (.int .i64 (p:Int))] H (bn H (.v (.int .i64 ((aT s p:Nat):Int)))):=by
 refine aA (n:=34) (H0:=H) (M:=[]) Tryz.func66 (by kernel_rfl) U (by rw[Tryz.ntmps66];rfl) .nil<|?_
 refine Q.rg<|S.dd<|D.box U U U λp2=>Q.as U<|Q.nt<|Q.rg<|Q.as U<|Q.nt<|S.sq<|UW.block<|S.loop (λn:Nat=>[(5,.v (.int .i64 (n:Int))),(2,.ptr p2 0),(1,.v (.int .i64 (p:Int)))]) (λ_=>[(p2,.box 72 (dZ s p0 d))]) (λn=>p+n<=s.size/\aT s p=n+aT s (p+n)) (λn=>s.size-(p+n)) 0 ⟨by omega,by rw[Nat.add_zero,Nat.zero_add]⟩ ⟨rfl,rfl,rfl,trivial⟩ (.refl _)<|?_
 rintro n ⟨hn,hnd⟩
 by_cases hlt:p+n<s.size
 ·by_cases hd:48<=aO s ((p+n:Nat):Int)/\aO s ((p+n:Nat):Int)<=57
  ·have hq:p+(n+1)<=s.size/\aT s p=(n+1)+aT s (p+(n+1)):=⟨by omega,by rw[hnd,Hm hlt hd.1 hd.2,<-Nat.add_assoc p n 1];omega⟩
   obtain⟨hd1,hd2⟩:=hd
   focus
    refine S.sq<|Q.rg<|Q.mv U<|Q.mv U<|S.qu (Z.add (r:=((p+n:Nat):Int)) U U (IntWalk.i64_in _ (by omega)))<|Q.fa dO U<|Q.lc 0 fJ U U U<|S.qu (Z.fC Tryz.underlying9 U)<|Q.bi U U U<|Q.mv U<|?_
    refine S.tD 13 (λpY=>?_) (λpY=>?_)
    rotate_left
    omega
    refine Q.on (Z.fa dO U)<|Q.on (Z.dQ 0 fJ U U U)<|Q.on (Z.mv U)<|Q.on (Z.mv U)<|Q.on (Z.add (r:=((p+n:Nat):Int)) U U (IntWalk.i64_in _ (by omega)))<|S.dd<|D.on<|D.ib Tryz.underlying9 U U (by omega) (by omega) λh19=>Q.on (Z.bi U U U)<|Q.pk U U<|Q.mv U<|?_
    refine S.tD 22 (λhc22=>?_) (λhc22=>?_)
    rotate_left
    omega
    refine Q.on (Z.fa dO U)<|Q.on (Z.dQ 0 fJ U U U)<|Q.on (Z.mv U)<|Q.on (Z.mv U)<|Q.on (Z.add (r:=((p+n:Nat):Int)) U U (IntWalk.i64_in _ (by omega)))<|S.dd<|D.on<|D.ib Tryz.underlying9 U U (by omega) (by omega) λXr=>Q.on (Z.bi U U U)<|Q.pk U U<|Q.nt<|S.cT U (decide_eq_true (by omega))<|UW.skip<|UQ.then<|UW.block<|S.rg<|Q.mv U<|S.qu (Z.add (r:=((n+1:Nat):Int)) U U (IntWalk.i64_in _ (by omega)))<|Q.as U<|US.nil<|UQ.aI<|?_
    refine S.back (n+1) ⟨rfl,rfl,rfl,trivial⟩ (.refl _) (by omega) (by omega)
  ·have hr:aT s p=n:=by rw[hnd,E9 (λ_=>by omega),Nat.add_zero]
   rw[hr]
   focus
    refine S.sq<|Q.rg<|Q.mv U<|Q.mv U<|S.qu (Z.add (r:=((p+n:Nat):Int)) U U (IntWalk.i64_in _ (by omega)))<|Q.fa dO U<|Q.lc 0 fJ U U U<|S.qu (Z.fC Tryz.underlying9 U)<|Q.bi U U U<|Q.mv U<|?_
    refine S.tD 13 (λpY=>?_) (λpY=>?_)
    rotate_left
    omega
    refine Q.on (Z.fa dO U)<|Q.on (Z.dQ 0 fJ U U U)<|Q.on (Z.mv U)<|Q.on (Z.mv U)<|Q.on (Z.add (r:=((p+n:Nat):Int)) U U (IntWalk.i64_in _ (by omega)))<|S.dd<|D.on<|D.ib Tryz.underlying9 U U (by omega) (by omega) λh19=>Q.on (Z.bi U U U)<|Q.pk U U<|Q.mv U<|?_
    refine S.tD 22 (λhc22=>?_) (λhc22=>?_)
    refine Q.on (Z.fa dO U)<|Q.on (Z.dQ 0 fJ U U U)<|Q.on (Z.mv U)<|Q.on (Z.mv U)<|Q.on (Z.add (r:=((p+n:Nat):Int)) U U (IntWalk.i64_in _ (by omega)))<|S.dd<|D.on<|D.ib Tryz.underlying9 U U (by omega) (by omega) λXr=>Q.on (Z.bi U U U)<|Q.pk U U<|Q.nt<|S.cF U (decide_eq_false (by omega))<|UW.exit<|UQ.pass<|UQ.pass<|UQ.here<|UQ.then<|Q.rg<|Q.mv U<|Q.as U<|Q.nt<|UW.ret<|S.bG (λ_=>au U U)<|?_
    rfl
    refine Q.of<|Q.of<|Q.of<|Q.of<|Q.of<|Q.of<|Q.of<|Q.pk U U<|Q.nt<|S.cF U U<|UW.exit<|UQ.pass<|UQ.pass<|UQ.here<|UQ.then<|Q.rg<|Q.mv U<|Q.as U<|Q.nt<|UW.ret<|S.bG (λ_=>au U U)<|?_
    rfl
 ·have hr:aT s p=n:=by rw[hnd,E9 (λh=>absurd h hlt),Nat.add_zero]
  rw[hr]
  refine S.sq<|Q.rg<|Q.mv U<|Q.mv U<|S.qu (Z.add (r:=((p+n:Nat):Int)) U U (IntWalk.i64_in _ (by omega)))<|Q.fa dO U<|Q.lc 0 fJ U U U<|S.qu (Z.fC Tryz.underlying9 U)<|Q.bi U U U<|Q.mv U<|?_
  refine S.tD 13 (λpY=>?_) (λpY=>?_)
  omega
  refine Q.of<|Q.of<|Q.of<|Q.of<|Q.of<|Q.of<|Q.of<|Q.pk U U<|Q.mv U<|Q.of<|Q.of<|Q.of<|Q.of<|Q.of<|Q.of<|Q.of<|Q.pk U U<|Q.nt<|S.cF U U<|UW.exit<|UQ.pass<|UQ.pass<|UQ.here<|UQ.then<|Q.rg<|Q.mv U<|Q.as U<|Q.nt<|UW.ret<|S.bG (λ_=>au U U)<|?_
  rfl
def JO(s:ByteArray)(d:Nat):PR->AV
 | .err e q=> .dH [.agg (tq s q e d),.agg (aN zeroV)]
 | .ok q v=> .dH [.agg (dZ s q d),.agg (aN v)]
theorem zz(s:ByteArray)(p i:Nat)(h:i<aT s p):48<=aO s ((p+i:Nat):Int)/\aO s ((p+i:Nat):Int)<=57:=by
 have e:=aT.eq_def s p
 by_cases hp:p<s.size
 ·rw[dif_pos hp] at e
  by_cases hd:AO (aO s (p:Int))=true
  ·rw[if_pos hd] at e
   cases i with
   |zero=>
    unfold AO at hd
    simp only[Bool.and_eq_true,decide_eq_true_eq] at hd
    exact hd
   |succ i=>
    have:=zz s (p+1) i (by omega)
    rwa [show p+1+i=p+(i+1) by omega] at this
  ·rw[if_neg hd] at e;omega
 ·rw[dif_neg hp] at e;omega
termination_by s.size-p
theorem Lh(s:ByteArray)(a:Nat):∀j,j<=aT s a->0<=jo s a j/\jo s a j<(10^j:Nat)
 |0,_=>⟨by show(0:Int)<=0;decide,by show(0:Int)<((1:Nat):Int);decide⟩
 |j+1,h=>by
  obtain⟨h1,h2⟩:=Lh s a j (by omega)
  obtain⟨h3,h4⟩:=zz s a j (by omega)
  have hp:(10:Nat)^(j+1)=10^j*10:=Nat.pow_succ ..
  have e:jo s a (j+1)=10*jo s a j+(aO s ((a+j:Nat):Int)-48):=rfl
  rw[e,hp]
  omega
theorem Li(s:ByteArray)(a j:Nat)(h:j<=aT s a)(h16:j<=16):0<=jo s a j/\jo s a j<10000000000000000:=by
 obtain⟨h1,h2⟩:=Lh s a j h
 have:(10:Nat)^j<=10^16:=Nat.pow_le_pow_right (by decide) h16
 have h3:(10:Nat)^16=10000000000000000:=by decide
 omega
theorem JP{s:ByteArray}{p a:Nat}(h:aT s a=0\/(aO s (a:Int)=48/\(1<aT s a\/p<a))):rG s p a=.err 11 p:=by unfold rG;rw[if_pos h]
theorem Ov{s:ByteArray}{p a:Nat}(h:¬(aT s a=0\/(aO s (a:Int)=48/\(1<aT s a\/p<a))))(h2:(a+aT s a<s.size/\(aO s ((a+aT s a:Nat):Int)=46\/aO s ((a+aT s a:Nat):Int)=101\/aO s ((a+aT s a:Nat):Int)=69))\/16<aT s a):rG s p a=.err 13 p:=by
 unfold rG;rw[if_neg h,if_pos h2]
theorem Ow{s:ByteArray}{p a:Nat}(h:¬(aT s a=0\/(aO s (a:Int)=48/\(1<aT s a\/p<a))))(h2:¬((a+aT s a<s.size/\(aO s ((a+aT s a:Nat):Int)=46\/aO s ((a+aT s a:Nat):Int)=101\/aO s ((a+aT s a:Nat):Int)=69))\/16<aT s a)):
 rG s p a=if 9007199254740991<jo s a (aT s a) then .err 13 p else .ok (a+aT s a) (qO (if p<a then-jo s a (aT s a) else jo s a (aT s a))):=by
 unfold rG;rw[if_neg h,if_neg h2]
theorem Fa(s:ByteArray)(p d:Nat)(hs:s.size<=1000000)(hp:p<=s.size)(H:Hp):F Tryz.prog 67 [.agg (dZ s p d)] H (bn H (JO s d (ko s p))):=by
 have hi:∀H,F Tryz.prog 62 [.agg (dZ s p d),.v (.int .u8 45)] H (bn H (.v (.bool (bT s p 45)))):=λH=>ji s p d 45 hs H
 have hf:∀(e:Int) H,F Tryz.prog 44 [.agg (dZ s p d),.v (.int .i64 e)] H (bn H (.agg (tq s p e d))):=λe H=>jJ s p d 0 e H
 unfold ko
 refine aA (n:=118) (H0:=H) (M:=[]) Tryz.func67 (by kernel_rfl) U (by rw[Tryz.ntmps67];rfl) .nil<|?_
 refine Q.rg<|S.dd<|D.box U U U λp1=>S.dd<|D.al z72 U U U λp2=>S.dd<|D.al z27 U U U λp3=>Q.nt<|Q.rg<|Q.fa bB U<|Q.lc 2 bC U U U<|Q.as U<|Q.nt<|?_
 refine S.Uf (λa:Nat=>[(4,.v (.int .i64 (a:Int))),(1,.ptr p1 0),(2,.ptr p2 0),(3,.ptr p3 0)]) (λ_=>[(p3,.box 27 (aN zeroV)),(p2,.box 72 [.v (.string ⟨#[]⟩),.v (.int .i64 0),.v (.int .i64 0),.v (.int .i64 0)]),(p1,.box 72 (dZ s p d))]) (λa=>(if bT s p 45=true then p+1 else p)=a) ?_ (λa ha=>?_)
 refine Q.rg<|S.qu (Z.bg 2 aF U U U)<|S.qu (Z.call U U (λH=>hi H))<|Q.nt<|?_
 refine S.cB U (λyc=>?_) (λyc=>?_)
 refine S.rg<|Q.mv U<|S.qu (Z.add (r:=((p+1:Nat):Int)) U U (IntWalk.i64_in _ (by omega)))<|Q.as U<|US.nil<|?_
 refine S.kY _ ⟨rfl,rfl,rfl,rfl,trivial⟩ (.refl _) (by rw[yc];rfl)
 refine UW.skip<|?_
 refine S.kY _ ⟨rfl,rfl,rfl,rfl,trivial⟩ (.refl _) (by rw[yc];rfl)
 have hb:p<=a/\a<=s.size:=by
  by_cases hm:bT s p 45=true
  ·have:=bP hm
   rw[if_pos hm] at ha;omega
  ·rw[if_neg hm] at ha;omega
 obtain⟨hb1,hb2⟩:=hb
 have hdg:∀H,F Tryz.prog 66 [.agg (dZ s p d),.v (.int .i64 (a:Int))] H (bn H (.v (.int .i64 ((aT s a:Nat):Int)))):=λH=>ym s p a d hs hb2 H
 have hn:=sF s a hb2
 rw[ha]
 by_cases hP:aT s a=0\/(aO s (a:Int)=48/\(1<aT s a\/p<a))
 ·rw[JP hP]
  focus
   refine Q.rg<|S.qu (Z.bg 2 aF U U U)<|Q.mv U<|S.qu (Z.call U U (λH=>hdg H))<|Q.as U<|Q.nt<|S.sq<|Q.rg<|Q.mv U<|Q.bi U U U<|Q.mv U<|?_
   refine S.tE 20 (λmO=>?_) (λmO=>?_)
   refine Q.of<|Q.of<|Q.of<|Q.ou<|Q.ou<|Q.ou<|Q.ou<|Q.ou<|Q.of<|Q.pk U U<|Q.mv U<|Q.of<|Q.of<|Q.of<|Q.of<|Q.of<|Q.ou<|Q.ou<|Q.of<|Q.of<|Q.ou<|Q.ou<|Q.ou<|Q.ou<|Q.ou<|Q.of<|Q.pk U U<|Q.nt<|S.cT U U<|Q.rg<|S.qu (Z.bg 2 aF U U U)<|S.qu (Z.call U U (λH=>hf 11 H))<|S.qu (Z.bd [] dh U U U U U U)<|S.s<|D.st 1 aF U U U U U U U U λ_=>S.s<|D.st 0 ay U U U U U U U U λ_=>Q.nt<|UW.ret<|UQ.aj<|S.bG (λhd=>ax U (av (k:=1) hd U U fM fO) (av (k:=0) hd U U bH bI))<|?_
   rfl
   refine Q.on (Z.mv U)<|Q.on (Z.bi U U U)<|Q.on (Z.mv U)<|?_
   refine S.tD 23 (λEo=>?_) (λEo=>?_)
   refine Q.on (Z.fa dO U)<|Q.on (Z.dQ 2 fJ U U U)<|Q.on (Z.mv U)<|S.dd<|D.on<|D.ib Tryz.underlying9 U U (by omega) (by omega) λh27=>Q.on (Z.bi U U U)<|Q.on (Z.pick U U)<|Q.pk U U<|Q.mv U<|?_
   refine S.tE 31 (λhc31=>?_) (λhc31=>?_)
   rotate_left
   omega
   rotate_right
   refine Q.of<|Q.of<|Q.of<|Q.of<|Q.of<|Q.ou<|Q.ou<|Q.of<|Q.of<|Q.ou<|Q.ou<|Q.ou<|Q.ou<|Q.ou<|Q.of<|Q.pk U U<|Q.nt<|S.cT U U<|Q.rg<|S.qu (Z.bg 2 aF U U U)<|S.qu (Z.call U U (λH=>hf 11 H))<|S.qu (Z.bd [] dh U U U U U U)<|S.s<|D.st 1 aF U U U U U U U U λ_=>S.s<|D.st 0 ay U U U U U U U U λ_=>Q.nt<|UW.ret<|UQ.aj<|S.bG (λhd=>ax U (av (k:=1) hd U U fM fO) (av (k:=0) hd U U bH bI))<|?_
   rfl
   refine Q.of<|Q.of<|Q.of<|Q.of<|Q.of<|Q.on (Z.pick U U)<|Q.pk U U<|Q.mv U<|Q.on (Z.mv U)<|Q.on (Z.fa bB U)<|Q.on (Z.dQ 2 bC U U U)<|Q.on (Z.bi U U U)<|Q.on (Z.mv U)<|?_
   refine S.tD 36 (λAz=>?_) (λAz=>?_)
   rotate_left
   omega
   refine Q.on (Z.mv U)<|Q.on (Z.bi U U U)<|Q.on (Z.pick U U)<|Q.on (Z.mv U)<|?_
   refine S.tE 40 (λjX=>?_) (λjX=>?_)
   rotate_left
   omega
   refine Q.on (Z.fa dO U)<|Q.on (Z.dQ 2 fJ U U U)<|Q.on (Z.mv U)<|S.dd<|D.on<|D.ib Tryz.underlying9 U U (by omega) (by omega) λLj=>Q.on (Z.bi U U U)<|Q.on (Z.pick U U)<|Q.pk U U<|Q.nt<|S.cT U (cZ (by omega))<|Q.rg<|S.qu (Z.bg 2 aF U U U)<|S.qu (Z.call U U (λH=>hf 11 H))<|S.qu (Z.bd [] dh U U U U U U)<|S.s<|D.st 1 aF U U U U U U U U λ_=>S.s<|D.st 0 ay U U U U U U U U λ_=>Q.nt<|UW.ret<|UQ.aj<|S.bG (λhd=>ax U (av (k:=1) hd U U fM fO) (av (k:=0) hd U U bH bI))<|?_
   rfl
 ·by_cases hQ:(a+aT s a<s.size/\(aO s ((a+aT s a:Nat):Int)=46\/aO s ((a+aT s a:Nat):Int)=101\/aO s ((a+aT s a:Nat):Int)=69))\/16<aT s a
  ·rw[Ov hP hQ]
   focus
    refine Q.rg<|S.qu (Z.bg 2 aF U U U)<|Q.mv U<|S.qu (Z.call U U (λH=>hdg H))<|Q.as U<|Q.nt<|?_
    refine S.cut [(5,.v (.int .i64 ((aT s a:Nat):Int))),(4,.v (.int .i64 (a:Int))),(1,.ptr p1 0),(2,.ptr p2 0),(3,.ptr p3 0)] [(p3,.box 27 (aN zeroV)),(p2,.box 72 [.v (.string ⟨#[]⟩),.v (.int .i64 0),.v (.int .i64 0),.v (.int .i64 0)]),(p1,.box 72 (dZ s p d))] True ?_ (λ_=>?_)
    refine Q.rg<|Q.mv U<|Q.bi U U U<|Q.mv U<|?_
    refine S.tE 20 (λmO=>?_) (λmO=>?_)
    omega
    refine Q.on (Z.mv U)<|Q.on (Z.bi U U U)<|Q.on (Z.mv U)<|?_
    refine S.tD 23 (λEo=>?_) (λEo=>?_)
    refine Q.on (Z.fa dO U)<|Q.on (Z.dQ 2 fJ U U U)<|Q.on (Z.mv U)<|S.dd<|D.on<|D.ib Tryz.underlying9 U U (by omega) (by omega) λh27=>Q.on (Z.bi U U U)<|Q.on (Z.pick U U)<|Q.pk U U<|Q.mv U<|?_
    refine S.tE 31 (λhc31=>?_) (λhc31=>?_)
    omega
    refine Q.on (Z.mv U)<|Q.on (Z.fa bB U)<|Q.on (Z.dQ 2 bC U U U)<|Q.on (Z.bi U U U)<|Q.on (Z.mv U)<|?_
    refine S.tD 36 (λAz=>?_) (λAz=>?_)
    refine Q.on (Z.mv U)<|Q.on (Z.bi U U U)<|Q.on (Z.pick U U)<|Q.on (Z.mv U)<|?_
    refine S.tE 40 (λjX=>?_) (λjX=>?_)
    omega
    refine Q.of<|Q.of<|Q.of<|Q.of<|Q.of<|Q.on (Z.pick U U)<|Q.pk U U<|Q.nt<|S.cF U U<|UW.skip<|?_
    refine S.fin ⟨rfl,rfl,rfl,rfl,rfl,trivial⟩ (.refl _) trivial
    refine Q.of<|Q.of<|Q.on (Z.pick U U)<|Q.on (Z.mv U)<|Q.of<|Q.of<|Q.of<|Q.of<|Q.of<|Q.on (Z.pick U U)<|Q.pk U U<|Q.nt<|S.cF U U<|UW.skip<|?_
    refine S.fin ⟨rfl,rfl,rfl,rfl,rfl,trivial⟩ (.refl _) trivial
    refine Q.of<|Q.of<|Q.of<|Q.of<|Q.of<|Q.on (Z.pick U U)<|Q.pk U U<|Q.mv U<|Q.on (Z.mv U)<|Q.on (Z.fa bB U)<|Q.on (Z.dQ 2 bC U U U)<|Q.on (Z.bi U U U)<|Q.on (Z.mv U)<|?_
    refine S.tD 36 (λAz=>?_) (λAz=>?_)
    refine Q.on (Z.mv U)<|Q.on (Z.bi U U U)<|Q.on (Z.pick U U)<|Q.on (Z.mv U)<|?_
    refine S.tE 40 (λjX=>?_) (λjX=>?_)
    rotate_left
    omega
    rotate_right
    refine Q.on (Z.fa dO U)<|Q.on (Z.dQ 2 fJ U U U)<|Q.on (Z.mv U)<|S.dd<|D.on<|D.ib Tryz.underlying9 U U (by omega) (by omega) λLj=>Q.on (Z.bi U U U)<|Q.on (Z.pick U U)<|Q.pk U U<|Q.nt<|S.cF U (bf (by omega))<|UW.skip<|?_
    refine S.fin ⟨rfl,rfl,rfl,rfl,rfl,trivial⟩ (.refl _) trivial
    refine Q.of<|Q.of<|Q.on (Z.pick U U)<|Q.on (Z.mv U)<|Q.of<|Q.of<|Q.of<|Q.of<|Q.of<|Q.on (Z.pick U U)<|Q.pk U U<|Q.nt<|S.cF U U<|UW.skip<|?_
    refine S.fin ⟨rfl,rfl,rfl,rfl,rfl,trivial⟩ (.refl _) trivial
    refine Q.rg<|Q.mv U<|Q.mv U<|S.qu (Z.add (r:=((a+aT s a:Nat):Int)) U U (IntWalk.i64_in _ (by omega)))<|Q.as U<|Q.nt<|S.sq<|Q.rg<|Q.mv U<|Q.fa dO U<|Q.lc 2 fJ U U U<|S.qu (Z.fC Tryz.underlying9 U)<|Q.bi U U U<|Q.mv U<|?_
    refine S.tD 59 (λEO=>?_) (λEO=>?_)
    refine Q.on (Z.fa dO U)<|Q.on (Z.dQ 2 fJ U U U)<|Q.on (Z.mv U)<|S.dd<|D.on<|D.ib Tryz.underlying9 U U (by omega) (by omega) λh63=>Q.on (Z.bi U U U)<|Q.on (Z.mv U)<|?_
    refine S.tE 65 (λN8=>?_) (λN8=>?_)
    refine Q.of<|Q.of<|Q.of<|Q.of<|Q.of<|Q.on (Z.pick U U)<|Q.on (Z.mv U)<|Q.of<|Q.of<|Q.of<|Q.of<|Q.of<|Q.on (Z.pick U U)<|Q.pk U U<|Q.mv U<|Q.of<|Q.of<|Q.pk U U<|Q.nt<|S.cT U U<|Q.rg<|S.qu (Z.bg 2 aF U U U)<|S.qu (Z.call U U (λH=>hf 13 H))<|S.qu (Z.bd [] dh U U U U U U)<|S.s<|D.st 1 aF U U U U U U U U λ_=>S.s<|D.st 0 ay U U U U U U U U λ_=>Q.nt<|UW.ret<|UQ.aj<|S.bG (λhd=>ax U (av (k:=1) hd U U fM fO) (av (k:=0) hd U U bH bI))<|?_
    rfl
    refine Q.on (Z.fa dO U)<|Q.on (Z.dQ 2 fJ U U U)<|Q.on (Z.mv U)<|S.dd<|D.on<|D.ib Tryz.underlying9 U U (by omega) (by omega) λh69=>Q.on (Z.bi U U U)<|Q.on (Z.pick U U)<|Q.on (Z.mv U)<|?_
    refine S.tE 72 (λU1=>?_) (λU1=>?_)
    refine Q.of<|Q.of<|Q.of<|Q.of<|Q.of<|Q.on (Z.pick U U)<|Q.pk U U<|Q.mv U<|Q.of<|Q.of<|Q.pk U U<|Q.nt<|S.cT U U<|Q.rg<|S.qu (Z.bg 2 aF U U U)<|S.qu (Z.call U U (λH=>hf 13 H))<|S.qu (Z.bd [] dh U U U U U U)<|S.s<|D.st 1 aF U U U U U U U U λ_=>S.s<|D.st 0 ay U U U U U U U U λ_=>Q.nt<|UW.ret<|UQ.aj<|S.bG (λhd=>ax U (av (k:=1) hd U U fM fO) (av (k:=0) hd U U bH bI))<|?_
    rfl
    refine Q.on (Z.fa dO U)<|Q.on (Z.dQ 2 fJ U U U)<|Q.on (Z.mv U)<|S.dd<|D.on<|D.ib Tryz.underlying9 U U (by omega) (by omega) λh76=>Q.on (Z.bi U U U)<|Q.on (Z.pick U U)<|Q.pk U U<|Q.mv U<|?_
    refine S.tE 80 (λU2=>?_) (λU2=>?_)
    refine Q.of<|Q.of<|Q.pk U U<|Q.nt<|S.cT U U<|Q.rg<|S.qu (Z.bg 2 aF U U U)<|S.qu (Z.call U U (λH=>hf 13 H))<|S.qu (Z.bd [] dh U U U U U U)<|S.s<|D.st 1 aF U U U U U U U U λ_=>S.s<|D.st 0 ay U U U U U U U U λ_=>Q.nt<|UW.ret<|UQ.aj<|S.bG (λhd=>ax U (av (k:=1) hd U U fM fO) (av (k:=0) hd U U bH bI))<|?_
    rfl
    refine Q.on (Z.mv U)<|Q.on (Z.bi U U U)<|Q.pk U U<|Q.nt<|S.cT U (decide_eq_true (by omega))<|Q.rg<|S.qu (Z.bg 2 aF U U U)<|S.qu (Z.call U U (λH=>hf 13 H))<|S.qu (Z.bd [] dh U U U U U U)<|S.s<|D.st 1 aF U U U U U U U U λ_=>S.s<|D.st 0 ay U U U U U U U U λ_=>Q.nt<|UW.ret<|UQ.aj<|S.bG (λhd=>ax U (av (k:=1) hd U U fM fO) (av (k:=0) hd U U bH bI))<|?_
    rfl
    refine Q.of<|Q.of<|Q.of<|Q.of<|Q.of<|Q.of<|Q.ou<|Q.ou<|Q.ou<|Q.ou<|Q.ou<|Q.of<|Q.of<|Q.ou<|Q.ou<|Q.ou<|Q.ou<|Q.ou<|Q.of<|Q.pk U U<|Q.mv U<|Q.on (Z.mv U)<|Q.on (Z.bi U U U)<|Q.pk U U<|Q.nt<|S.cT U (decide_eq_true (by omega))<|Q.rg<|S.qu (Z.bg 2 aF U U U)<|S.qu (Z.call U U (λH=>hf 13 H))<|S.qu (Z.bd [] dh U U U U U U)<|S.s<|D.st 1 aF U U U U U U U U λ_=>S.s<|D.st 0 ay U U U U U U U U λ_=>Q.nt<|UW.ret<|UQ.aj<|S.bG (λhd=>ax U (av (k:=1) hd U U fM fO) (av (k:=0) hd U U bH bI))<|?_
    rfl
  ·rw[Ow hP hQ]
   have h16:aT s a<=16:=by omega
   focus
    refine Q.rg<|S.qu (Z.bg 2 aF U U U)<|Q.mv U<|S.qu (Z.call U U (λH=>hdg H))<|Q.as U<|Q.nt<|?_
    refine S.cut [(5,.v (.int .i64 ((aT s a:Nat):Int))),(4,.v (.int .i64 (a:Int))),(1,.ptr p1 0),(2,.ptr p2 0),(3,.ptr p3 0)] [(p3,.box 27 (aN zeroV)),(p2,.box 72 [.v (.string ⟨#[]⟩),.v (.int .i64 0),.v (.int .i64 0),.v (.int .i64 0)]),(p1,.box 72 (dZ s p d))] True ?_ (λ_=>?_)
    refine Q.rg<|Q.mv U<|Q.bi U U U<|Q.mv U<|?_
    refine S.tE 20 (λmO=>?_) (λmO=>?_)
    omega
    refine Q.on (Z.mv U)<|Q.on (Z.bi U U U)<|Q.on (Z.mv U)<|?_
    refine S.tD 23 (λEo=>?_) (λEo=>?_)
    refine Q.on (Z.fa dO U)<|Q.on (Z.dQ 2 fJ U U U)<|Q.on (Z.mv U)<|S.dd<|D.on<|D.ib Tryz.underlying9 U U (by omega) (by omega) λh27=>Q.on (Z.bi U U U)<|Q.on (Z.pick U U)<|Q.pk U U<|Q.mv U<|?_
    refine S.tE 31 (λhc31=>?_) (λhc31=>?_)
    omega
    refine Q.on (Z.mv U)<|Q.on (Z.fa bB U)<|Q.on (Z.dQ 2 bC U U U)<|Q.on (Z.bi U U U)<|Q.on (Z.mv U)<|?_
    refine S.tD 36 (λAz=>?_) (λAz=>?_)
    refine Q.on (Z.mv U)<|Q.on (Z.bi U U U)<|Q.on (Z.pick U U)<|Q.on (Z.mv U)<|?_
    refine S.tE 40 (λjX=>?_) (λjX=>?_)
    omega
    refine Q.of<|Q.of<|Q.of<|Q.of<|Q.of<|Q.on (Z.pick U U)<|Q.pk U U<|Q.nt<|S.cF U U<|UW.skip<|?_
    refine S.fin ⟨rfl,rfl,rfl,rfl,rfl,trivial⟩ (.refl _) trivial
    refine Q.of<|Q.of<|Q.on (Z.pick U U)<|Q.on (Z.mv U)<|Q.of<|Q.of<|Q.of<|Q.of<|Q.of<|Q.on (Z.pick U U)<|Q.pk U U<|Q.nt<|S.cF U U<|UW.skip<|?_
    refine S.fin ⟨rfl,rfl,rfl,rfl,rfl,trivial⟩ (.refl _) trivial
    refine Q.of<|Q.of<|Q.of<|Q.of<|Q.of<|Q.on (Z.pick U U)<|Q.pk U U<|Q.mv U<|Q.on (Z.mv U)<|Q.on (Z.fa bB U)<|Q.on (Z.dQ 2 bC U U U)<|Q.on (Z.bi U U U)<|Q.on (Z.mv U)<|?_
    refine S.tD 36 (λAz=>?_) (λAz=>?_)
    refine Q.on (Z.mv U)<|Q.on (Z.bi U U U)<|Q.on (Z.pick U U)<|Q.on (Z.mv U)<|?_
    refine S.tE 40 (λjX=>?_) (λjX=>?_)
    rotate_left
    omega
    rotate_right
    refine Q.on (Z.fa dO U)<|Q.on (Z.dQ 2 fJ U U U)<|Q.on (Z.mv U)<|S.dd<|D.on<|D.ib Tryz.underlying9 U U (by omega) (by omega) λLj=>Q.on (Z.bi U U U)<|Q.on (Z.pick U U)<|Q.pk U U<|Q.nt<|S.cF U (bf (by omega))<|UW.skip<|?_
    refine S.fin ⟨rfl,rfl,rfl,rfl,rfl,trivial⟩ (.refl _) trivial
    refine Q.of<|Q.of<|Q.on (Z.pick U U)<|Q.on (Z.mv U)<|Q.of<|Q.of<|Q.of<|Q.of<|Q.of<|Q.on (Z.pick U U)<|Q.pk U U<|Q.nt<|S.cF U U<|UW.skip<|?_
    refine S.fin ⟨rfl,rfl,rfl,rfl,rfl,trivial⟩ (.refl _) trivial
    refine Q.rg<|Q.mv U<|Q.mv U<|S.qu (Z.add (r:=((a+aT s a:Nat):Int)) U U (IntWalk.i64_in _ (by omega)))<|Q.as U<|Q.nt<|?_
    refine S.cut [(6,.v (.int .i64 ((a+aT s a:Nat):Int))),(4,.v (.int .i64 (a:Int))),(1,.ptr p1 0),(2,.ptr p2 0),(3,.ptr p3 0)] [(p3,.box 27 (aN zeroV)),(p2,.box 72 [.v (.string ⟨#[]⟩),.v (.int .i64 0),.v (.int .i64 0),.v (.int .i64 0)]),(p1,.box 72 (dZ s p d))] True ?_ (λ_=>?_)
    refine Q.rg<|Q.mv U<|Q.fa dO U<|Q.lc 2 fJ U U U<|S.qu (Z.fC Tryz.underlying9 U)<|Q.bi U U U<|Q.mv U<|?_
    refine S.tD 59 (λEO=>?_) (λEO=>?_)
    refine Q.on (Z.fa dO U)<|Q.on (Z.dQ 2 fJ U U U)<|Q.on (Z.mv U)<|S.dd<|D.on<|D.ib Tryz.underlying9 U U (by omega) (by omega) λh63=>Q.on (Z.bi U U U)<|Q.on (Z.mv U)<|?_
    refine S.tE 65 (λN8=>?_) (λN8=>?_)
    omega
    refine Q.on (Z.fa dO U)<|Q.on (Z.dQ 2 fJ U U U)<|Q.on (Z.mv U)<|S.dd<|D.on<|D.ib Tryz.underlying9 U U (by omega) (by omega) λh69=>Q.on (Z.bi U U U)<|Q.on (Z.pick U U)<|Q.on (Z.mv U)<|?_
    refine S.tE 72 (λU1=>?_) (λU1=>?_)
    omega
    refine Q.on (Z.fa dO U)<|Q.on (Z.dQ 2 fJ U U U)<|Q.on (Z.mv U)<|S.dd<|D.on<|D.ib Tryz.underlying9 U U (by omega) (by omega) λh76=>Q.on (Z.bi U U U)<|Q.on (Z.pick U U)<|Q.pk U U<|Q.mv U<|?_
    refine S.tE 80 (λU2=>?_) (λU2=>?_)
    omega
    refine Q.on (Z.mv U)<|Q.on (Z.bi U U U)<|Q.pk U U<|Q.nt<|S.cF U (decide_eq_false (by omega))<|UW.skip<|?_
    refine S.fin ⟨rfl,rfl,rfl,rfl,rfl,trivial⟩ (.refl _) trivial
    refine Q.of<|Q.of<|Q.of<|Q.of<|Q.of<|Q.of<|Q.ou<|Q.ou<|Q.ou<|Q.ou<|Q.ou<|Q.of<|Q.of<|Q.ou<|Q.ou<|Q.ou<|Q.ou<|Q.ou<|Q.of<|Q.pk U U<|Q.mv U<|Q.on (Z.mv U)<|Q.on (Z.bi U U U)<|Q.pk U U<|Q.nt<|S.cF U (decide_eq_false (by omega))<|UW.skip<|?_
    refine S.fin ⟨rfl,rfl,rfl,rfl,rfl,trivial⟩ (.refl _) trivial
    refine Q.rg<|Q.as U<|Q.nt<|S.sq<|Q.rg<|Q.mv U<|Q.as U<|Q.nt<|UW.block<|?_
   refine S.loop (λj:Nat=>[(7,.v (.int .i64 (jo s a j))),(8,.v (.int .i64 ((a+j:Nat):Int))),(6,.v (.int .i64 ((a+aT s a:Nat):Int))),(4,.v (.int .i64 (a:Int))),(1,.ptr p1 0),(2,.ptr p2 0),(3,.ptr p3 0)]) (λ_=>[(p3,.box 27 (aN zeroV)),(p2,.box 72 [.v (.string ⟨#[]⟩),.v (.int .i64 0),.v (.int .i64 0),.v (.int .i64 0)]),(p1,.box 72 (dZ s p d))]) (λj=>j<=aT s a) (λj=>aT s a-j) 0 (Nat.zero_le _) ⟨rfl,rfl,rfl,rfl,rfl,rfl,rfl,trivial⟩ (.refl _)<|?_
   intro j hj
   by_cases hjl:j<aT s a
   ·obtain⟨hI1,hI2⟩:=Li s a j hj (by omega)
    obtain⟨hB1,hB2⟩:=zz s a j hjl
    have hq:j+1<=aT s a:=hjl
    refine S.sq<|Q.rg<|Q.mv U<|Q.mv U<|Q.bi U U U<|Q.nt<|S.cT U (decide_eq_true (by omega))<|UW.skip<|UQ.then<|S.sq<|UW.block<|S.rg<|Q.mv U<|S.qu (Z.mul (r:=10*jo s a j) U U (IntWalk.i64_in _ (by omega)))<|Q.fa dO U<|Q.lc 2 fJ U U U<|Q.mv U<|S.dd<|D.ib Tryz.underlying9 U U (by omega) (by omega) λh98=>S.qu (Z.sub (r:=aO s ((a+j:Nat):Int)-48) U U (IntWalk.u8_in _ (by omega)))<|S.qu (Z.cv (r:=aO s ((a+j:Nat):Int)-48) Tryz.underlying2 U (IntWalk.i64_in _ (by omega)) (by kernel_rfl))<|S.qu (Z.add (r:=jo s a (j+1)) U U (IntWalk.i64_in _ (by omega)))<|Q.as U<|US.nil<|UQ.aI<|UQ.then<|S.rg<|Q.mv U<|S.qu (Z.add (r:=((a+(j+1):Nat):Int)) U U (IntWalk.i64_in _ (by omega)))<|Q.as U<|US.nil<|?_
    refine S.back (j+1) ⟨rfl,rfl,rfl,rfl,rfl,rfl,rfl,trivial⟩ (.refl _) (by omega) (by omega)
   ·have YZ:j=aT s a:=by omega
    subst YZ
    obtain⟨hI1,hI2⟩:=Li s a (aT s a) hj h16
    by_cases hM:9007199254740991<jo s a (aT s a)
    ·rw[if_pos hM]
     refine S.sq<|Q.rg<|Q.mv U<|Q.mv U<|Q.bi U U U<|Q.nt<|S.cF U (decide_eq_false (by omega))<|UW.exit<|UQ.pass<|UQ.pass<|UQ.here<|UQ.then<|S.sq<|Q.rg<|Q.mv U<|Q.bi U U U<|Q.nt<|S.cT U (decide_eq_true (by omega))<|Q.rg<|S.qu (Z.bg 2 aF U U U)<|S.qu (Z.call U U (λH=>hf 13 H))<|S.qu (Z.bd [] dh U U U U U U)<|S.s<|D.st 1 aF U U U U U U U U λ_=>S.s<|D.st 0 ay U U U U U U U U λ_=>Q.nt<|UW.ret<|UQ.aj<|S.bG (λhd=>ax U (av (k:=1) hd U U fM fO) (av (k:=0) hd U U bH bI))<|?_
     rfl
    ·rw[if_neg hM]
     by_cases ZM:p<a
     ·rw[if_pos ZM]
      refine S.sq<|Q.rg<|Q.mv U<|Q.mv U<|Q.bi U U U<|Q.nt<|S.cF U (decide_eq_false (by omega))<|UW.exit<|UQ.pass<|UQ.pass<|UQ.here<|UQ.then<|S.sq<|Q.rg<|Q.mv U<|Q.bi U U U<|Q.nt<|S.cF U (decide_eq_false (by omega))<|UW.skip<|UQ.then<|S.sq<|Q.rg<|Q.mv U<|Q.fa bB U<|Q.lc 2 bC U U U<|Q.bi U U U<|Q.nt<|S.cT U (decide_eq_true (by omega))<|S.rg<|Q.mv U<|S.qu (Z.neg (r:= -jo s a (aT s a)) U (Eq.trans (IntWalk.i64_in _ (by omega)) (by omega)))<|Q.as U<|Q.nt<|Q.rg<|Q.mv U<|Q.fa bB U<|S.s<|D.st 2 bC U U U U U U U U λ_=>Q.nt<|S.sq<|?_
      refine' UW.dC (by kernel_rfl) [0,0,2,7,15] [some 115,some 116,some 117,none,none] [some (115,_),some (116,_),some (117,_),none,none] [3,4] [0] U (by decide) (by decide) (I.held (by decide) U U ?jH (I.free (by decide) U U ?jI (I.free (by decide) U U ?qf (I.skip (I.skip I.nil))))) ?uC
      case jH=>exact Z.bg 2 aF rfl rfl rfl
      case jI=>(intro _;exact Z.mv rfl)
      case qf=>(intro _;exact Z.call rfl rfl (λ_=>CO _ _))
      refine CH.aV U U<|D.st 1 aF U U U U U U U U λ_=>CH.aV U U<|D.st 0 ay U U U U U U U U λ_=>CH.nil<|?_
      simp only[app,bV]
      refine UQ.then<|UW.ret<|S.bG (λhd=>ax U (av (k:=1) hd U U fM fO) (av (k:=0) hd U U bH bI))<|?_
      rfl
     ·rw[if_neg ZM]
      refine S.sq<|Q.rg<|Q.mv U<|Q.mv U<|Q.bi U U U<|Q.nt<|S.cF U (decide_eq_false (by omega))<|UW.exit<|UQ.pass<|UQ.pass<|UQ.here<|UQ.then<|S.sq<|Q.rg<|Q.mv U<|Q.bi U U U<|Q.nt<|S.cF U (decide_eq_false (by omega))<|UW.skip<|UQ.then<|S.sq<|Q.rg<|Q.mv U<|Q.fa bB U<|Q.lc 2 bC U U U<|Q.bi U U U<|Q.nt<|S.cF U (decide_eq_false (by omega))<|UW.skip<|UQ.then<|Q.rg<|Q.mv U<|Q.fa bB U<|S.s<|D.st 2 bC U U U U U U U U λ_=>Q.nt<|S.sq<|?_
      refine' UW.dC (by kernel_rfl) [0,0,2,7,15] [some 115,some 116,some 117,none,none] [some (115,_),some (116,_),some (117,_),none,none] [3,4] [0] U (by decide) (by decide) (I.held (by decide) U U ?AU (I.free (by decide) U U ?AX (I.free (by decide) U U ?JQ (I.skip (I.skip I.nil))))) ?Ox
      case AU=>exact Z.bg 2 aF rfl rfl rfl
      case AX=>(intro _;exact Z.mv rfl)
      case JQ=>(intro _;exact Z.call rfl rfl (λ_=>CO _ _))
      refine CH.aV U U<|D.st 1 aF U U U U U U U U λ_=>CH.aV U U<|D.st 0 ay U U U U U U U U λ_=>CH.nil<|?_
      simp only[app,bV]
      refine UQ.then<|UW.ret<|S.bG (λhd=>ax U (av (k:=1) hd U U fM fO) (av (k:=0) hd U U bH bI))<|?_
      rfl
end Go.Proofs.YtbooeongacgnbaaGreatDoor
end
