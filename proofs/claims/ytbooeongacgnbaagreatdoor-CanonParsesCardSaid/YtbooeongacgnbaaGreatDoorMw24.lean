/- A part of the proof. -/
import Derived.Test.YtbooeongacgnbaaGreatDoorMw23
import Derived.Test.YtbooeongacgnbaaGreatDoorMw09
import Derived.Test.YtbooeongacgnbaaGreatDoorMw20
set_option maxRecDepth 100000
set_option maxHeartbeats 4000000
set_option linter.unusedSectionVars false
set_option linter.unusedVariables false
set_option linter.unusedSimpArgs false
section
namespace Go.Proofs.YtbooeongacgnbaaGreatDoor
open Go Go.gW Go.RowKit
def tN:ByteArray:=⟨#[34,92,47,98,102,110,114,116]⟩
def Y5:ByteArray:=⟨#[34,92,47,8,12,10,13,9]⟩
theorem RG(j:Nat)(hj:j<8):0<=eH (aO tN (j:Int))/\Y5.extract j (j+1)=bF (eH (aO tN (j:Int))):=by
 rcases(show j=0\/j=1\/j=2\/j=3\/j=4\/j=5\/j=6\/j=7 by omega) with rfl|rfl|rfl|rfl|rfl|rfl|rfl|rfl
 all_goals exact⟨by decide,by rfl⟩
theorem RH(c:Int)(h:∀i:Nat,i<8->¬aO tN (i:Int)=c):¬0<=eH c:=by
 have h0:¬(34:Int)=c:=h 0 (by decide)
 have h1:¬(92:Int)=c:=h 1 (by decide)
 have h2:¬(47:Int)=c:=h 2 (by decide)
 have h3:¬(98:Int)=c:=h 3 (by decide)
 have h4:¬(102:Int)=c:=h 4 (by decide)
 have h5:¬(110:Int)=c:=h 5 (by decide)
 have h6:¬(114:Int)=c:=h 6 (by decide)
 have h7:¬(116:Int)=c:=h 7 (by decide)
 unfold eH
 rw[if_neg (by omega),if_neg (by omega),if_neg (by omega),if_neg (by omega),if_neg (by omega),if_neg (by omega)]
 decide
theorem jC(s:ByteArray)(p j:Nat)(h:p+j<s.size):aO (s.extract p s.size) (j:Int)=aO s ((p+j:Nat):Int):=by
 have hz:j<(s.extract p s.size).size:=by rw[ByteArray.size_extract];omega
 rw[kS _ _ hz,kS _ _ h]
 simp[ByteArray.data_extract]
theorem Lm(u:ByteArray)(p:Nat)(hp:p<=u.size):aR (u.extract p u.size) 0=aR u p:=by
 have hz:(u.extract p u.size).size=u.size-p:=by rw[ByteArray.size_extract];omega
 unfold aR
 by_cases h:p+6<=u.size
 ·have e:∀j:Nat,j<6->aO (u.extract p u.size) ((j:Nat):Int)=aO u ((p+j:Nat):Int):=λj hj=>jC u p j (by omega)
  rw[hz]
  simp only[Nat.zero_add]
  rw[e 0 (by decide),e 1 (by decide),e 2 (by decide),e 3 (by decide),e 4 (by decide),e 5 (by decide),Nat.add_zero]
  by_cases hc:aO u (p:Int)=92/\aO u ((p+1:Nat):Int)=117
  ·exact(if_pos ⟨by omega,hc⟩).trans (if_pos ⟨h,hc⟩).symm
  ·exact(if_neg (λg=>hc g.2)).trans (if_neg (λg=>hc g.2)).symm
 ·rw[if_neg (λg=>by have:=g.1;omega),if_neg (λg=>h g.1)]
theorem lg(u:ByteArray)(p:Nat): -1<=aR u p/\aR u p<65536:=by
 have a:=sG (aO u ((p+2:Nat):Int))
 have b:=sG (aO u ((p+3:Nat):Int))
 have c:=sG (aO u ((p+4:Nat):Int))
 have d:=sG (aO u ((p+5:Nat):Int))
 unfold aR
 split
 ·split
  ·decide
  ·omega
 ·decide
theorem CY{u:ByteArray}(h:¬aR u 0<0):6<=u.size:=by
 by_cases g:6<=u.size
 ·exact g
 ·exact absurd (A8 (u:=u) (λk=>g k.1)) (by intro e;rw[e] at h;exact h (by decide))
def Xw:Option (Int×Nat)->AV
 |none=> .dH [.v (.string ⟨#[]⟩),.v (.int .i64 0)]
 |some (r,n)=> .dH [.v (.string (bF r)),.v (.int .i64 (n:Int))]
theorem Tv{u:ByteArray}(h:1<u.size/\0<=eH (aO u 1)):jy u 0=some (eH (aO u 1),2):=by
 unfold jy;exact if_pos h
theorem OB{u:ByteArray}(h:¬(1<u.size/\0<=eH (aO u 1)))(h2:aR u 0<0\/(56320<=aR u 0/\aR u 0<=57343)):jy u 0=none:=by
 unfold jy;exact(if_neg h).trans (if_pos h2)
theorem Tw{u:ByteArray}(h:¬(1<u.size/\0<=eH (aO u 1)))(h2:¬(aR u 0<0\/(56320<=aR u 0/\aR u 0<=57343)))(h3:aR u 0<55296\/57343<aR u 0):jy u 0=some (aR u 0,6):=by
 unfold jy;exact(if_neg h).trans ((if_neg h2).trans (if_pos h3))
theorem Ty{u:ByteArray}(h:¬(1<u.size/\0<=eH (aO u 1)))(h2:¬(aR u 0<0\/(56320<=aR u 0/\aR u 0<=57343)))(h3:¬(aR u 0<55296\/57343<aR u 0))(h4:aR u 6<56320\/57343<aR u 6):jy u 0=none:=by
 unfold jy;exact(if_neg h).trans ((if_neg h2).trans ((if_neg h3).trans (if_pos h4)))
theorem Tz{u:ByteArray}(h:¬(1<u.size/\0<=eH (aO u 1)))(h2:¬(aR u 0<0\/(56320<=aR u 0/\aR u 0<=57343)))(h3:¬(aR u 0<55296\/57343<aR u 0))(h4:¬(aR u 6<56320\/57343<aR u 6)):jy u 0=some (65536+1024*(aR u 0-55296)+aR u 6-56320,12):=by
 unfold jy;exact(if_neg h).trans ((if_neg h2).trans ((if_neg h3).trans (if_neg h4)))
theorem Ho(u:ByteArray)(Ll:u.size<=1000000)(H:Hp):F Tryz.prog 111 [.v (.string u)] H (bn H (Xw (jy u 0))):=by
 have hu1:∀H,F Tryz.prog 135 [.v (.string u)] H (bn H (.v (.int .i64 (aR u 0)))):=λH=>CX u Ll H
 have hf8:tN.size=8:=rfl
 have ht8:Y5.size=8:=rfl
 refine aA (n:=62) (H0:=H) (M:=[]) Tryz.func111 (by kernel_rfl) U (by rw[Tryz.ntmps111];rfl) .nil<|?_
 refine Q.rg<|Q.as U<|Q.as U<|Q.nt<|S.sq<|Q.rg<|Q.as U<|Q.nt<|UW.block<|S.loop (λj:Nat=>[(4,.v (.int .i64 (j:Int))),(0,.v (.string u))]) (λ_=>[]) (λj=>j<=8/\∀i:Nat,i<j->¬aO tN (i:Int)=aO u 1) (λj=>8-j) 0 ⟨by omega,λi hi=>absurd hi (by omega)⟩ ⟨rfl,rfl,trivial⟩ (.refl _)<|?_
 rintro j ⟨hj,hall⟩
 by_cases hgo:j<8/\1<u.size
 ·obtain⟨ZO,Y6⟩:=hgo
  obtain⟨hm1,hm2⟩:=RG j ZO
  by_cases hf:aO tN (j:Int)=aO u 1
  ·rw[Tv ⟨Y6,by rw[<-hf];exact hm1⟩,<-hf]
   focus
    refine S.sq<|Q.rg<|Q.mv U<|Q.bi U U U<|Q.mv U<|?_
    refine S.tD 9 (λAj=>?_) (λAj=>?_)
    rotate_left
    omega
    refine Q.on (Z.mv U)<|Q.on (Z.fC Tryz.underlying9 U)<|Q.on (Z.bi U U U)<|Q.pk U U<|Q.nt<|S.cT U (decide_eq_true (by omega))<|UW.skip<|UQ.then<|S.sq<|UW.block<|S.sq<|?_
    refine' UW.dC (by kernel_rfl) [0,1,0,4,15] [some 16,some 17,some 18,some 19,some 20] [some (16,_),some (17,_),some (18,_),some (19,_),some (20,_)] [] [] U (by decide) (by decide) (I.free (by decide) U U ?gY (I.free (by decide) U U ?gZ (I.free (by decide) U U ?iK (I.free (by decide) U U ?mP (I.free (by decide) U U ?mQ I.nil))))) ?oD
    case gY=>(intro _;exact Z.mv rfl)
    case gZ=>(intro _;exact Z.is (p:=tN) Tryz.underlying9 rfl rfl (by omega) (by omega))
    case iK=>(intro _;exact Z.mv rfl)
    case mP=>(intro _;exact Z.is Tryz.underlying9 rfl rfl (by omega) (by omega))
    case mQ=>(intro _;exact Z.bi rfl rfl rfl)
    refine CH.nil<|?_
    simp only[app,bV]
    refine UQ.then<|S.cT U (cZ (by omega))<|Q.rg<|Q.mv U<|Q.mv U<|S.qu (Z.add (r:=((j+1:Nat):Int)) U U (IntWalk.i64_in _ (by omega)))<|S.qu (Z.eq (u':=.v (.string (bF (eH (aO tN (j:Int)))))) (Z.slt (p:=Y5) Tryz.underlying9 U (.both U U) (by omega) (by omega)) (by rw[<-hm2]))<|?_
    refine Q.as U<|Q.as U<|Q.nt<|UW.ret<|UQ.az<|UQ.aj<|UQ.aj<|UQ.az<|UQ.aj<|S.bG (λhd=>ax U (Y U) (Y U))<|?_
    rfl
  ·have hq:j+1<=8/\∀i:Nat,i<j+1->¬aO tN (i:Int)=aO u 1:=⟨ZO,λi hi=>by
    by_cases hij:i=j
    ·subst hij;exact hf
    ·exact hall i (by omega)⟩
   focus
    refine S.sq<|Q.rg<|Q.mv U<|Q.bi U U U<|Q.mv U<|?_
    refine S.tD 9 (λAj=>?_) (λAj=>?_)
    rotate_left
    omega
    refine Q.on (Z.mv U)<|Q.on (Z.fC Tryz.underlying9 U)<|Q.on (Z.bi U U U)<|Q.pk U U<|Q.nt<|S.cT U (decide_eq_true (by omega))<|UW.skip<|UQ.then<|S.sq<|UW.block<|S.sq<|?_
    refine' UW.dC (by kernel_rfl) [0,1,0,4,15] [some 16,some 17,some 18,some 19,some 20] [some (16,_),some (17,_),some (18,_),some (19,_),some (20,_)] [] [] U (by decide) (by decide) (I.free (by decide) U U ?fG (I.free (by decide) U U ?fH (I.free (by decide) U U ?iL (I.free (by decide) U U ?jF (I.free (by decide) U U ?jG I.nil))))) ?lG
    case fG=>(intro _;exact Z.mv rfl)
    case fH=>(intro _;exact Z.is (p:=tN) Tryz.underlying9 rfl rfl (by omega) (by omega))
    case iL=>(intro _;exact Z.mv rfl)
    case jF=>(intro _;exact Z.is Tryz.underlying9 rfl rfl (by omega) (by omega))
    case jG=>(intro _;exact Z.bi rfl rfl rfl)
    refine CH.nil<|?_
    simp only[app,bV]
    refine UQ.then<|S.cF U (bf (by omega))<|UW.skip<|UQ.aI<|UQ.then<|S.rg<|Q.mv U<|S.qu (Z.add (r:=((j+1:Nat):Int)) U U (IntWalk.i64_in _ (by omega)))<|Q.as U<|US.nil<|?_
    refine S.back (j+1) ⟨rfl,rfl,trivial⟩ (.refl _) (by omega) (by omega)
 ·have hno:¬(1<u.size/\0<=eH (aO u 1)):=λg=>RH _ (λi hi=>hall i (by omega)) g.2
  have hb:=lg u 0
  by_cases c1:aR u 0<0\/(56320<=aR u 0/\aR u 0<=57343)
  ·rw[OB hno c1]
   focus
    refine S.sq<|Q.rg<|Q.mv U<|Q.bi U U U<|Q.mv U<|?_
    refine S.tD 9 (λAj=>?_) (λAj=>?_)
    refine Q.on (Z.mv U)<|Q.on (Z.fC Tryz.underlying9 U)<|Q.on (Z.bi U U U)<|Q.pk U U<|Q.nt<|S.cF U (decide_eq_false (by omega))<|UW.exit<|UQ.pass<|UQ.pass<|UQ.here<|UQ.then<|Q.rg<|Q.mv U<|S.qu (Z.call U U (λH=>hu1 H))<|Q.as U<|Q.nt<|S.sq<|Q.rg<|Q.mv U<|Q.bi U U U<|Q.mv U<|?_
    refine S.tD 29 (λhc29=>?_) (λhc29=>?_)
    refine Q.of<|Q.of<|Q.of<|Q.ou<|Q.ou<|Q.of<|Q.pk U U<|Q.nt<|S.cT U U<|Q.rg<|Q.as U<|Q.as U<|Q.nt<|UW.ret<|UQ.aj<|S.bG (λhd=>ax U (Y U) (Y U))<|?_
    rfl
    refine Q.on (Z.mv U)<|Q.on (Z.bi U U U)<|Q.on (Z.mv U)<|?_
    refine S.tD 32 (λhc32=>?_) (λhc32=>?_)
    rotate_left
    omega
    rotate_right
    refine Q.on (Z.mv U)<|Q.on (Z.bi U U U)<|Q.on (Z.pick U U)<|Q.pk U U<|Q.nt<|S.cT U (decide_eq_true (by omega))<|Q.rg<|Q.as U<|Q.as U<|Q.nt<|UW.ret<|UQ.aj<|S.bG (λhd=>ax U (Y U) (Y U))<|?_
    rfl
    refine Q.of<|Q.of<|Q.of<|Q.pk U U<|Q.nt<|S.cF U U<|UW.exit<|UQ.pass<|UQ.pass<|UQ.here<|UQ.then<|Q.rg<|Q.mv U<|S.qu (Z.call U U (λH=>hu1 H))<|Q.as U<|Q.nt<|S.sq<|Q.rg<|Q.mv U<|Q.bi U U U<|Q.mv U<|?_
    refine S.tD 29 (λhc29=>?_) (λhc29=>?_)
    refine Q.of<|Q.of<|Q.of<|Q.ou<|Q.ou<|Q.of<|Q.pk U U<|Q.nt<|S.cT U U<|Q.rg<|Q.as U<|Q.as U<|Q.nt<|UW.ret<|UQ.aj<|S.bG (λhd=>ax U (Y U) (Y U))<|?_
    rfl
    refine Q.on (Z.mv U)<|Q.on (Z.bi U U U)<|Q.on (Z.mv U)<|?_
    refine S.tD 32 (λhc32=>?_) (λhc32=>?_)
    rotate_left
    omega
    refine Q.on (Z.mv U)<|Q.on (Z.bi U U U)<|Q.on (Z.pick U U)<|Q.pk U U<|Q.nt<|S.cT U (decide_eq_true (by omega))<|Q.rg<|Q.as U<|Q.as U<|Q.nt<|UW.ret<|UQ.aj<|S.bG (λhd=>ax U (Y U) (Y U))<|?_
    rfl
  ·by_cases c2:aR u 0<55296\/57343<aR u 0
   ·rw[Tw hno c1 c2]
    have hby:∀H,F Tryz.prog 136 [.v (.int .i64 (aR u 0))] H (bn H (.v (.string (bF (aR u 0))))):=λH=>A9 _ (by omega) (by omega) H
    focus
     refine S.sq<|Q.rg<|Q.mv U<|Q.bi U U U<|Q.mv U<|?_
     refine S.tD 9 (λAj=>?_) (λAj=>?_)
     refine Q.on (Z.mv U)<|Q.on (Z.fC Tryz.underlying9 U)<|Q.on (Z.bi U U U)<|Q.pk U U<|Q.nt<|S.cF U (decide_eq_false (by omega))<|UW.exit<|UQ.pass<|UQ.pass<|UQ.here<|UQ.then<|Q.rg<|Q.mv U<|S.qu (Z.call U U (λH=>hu1 H))<|Q.as U<|Q.nt<|S.sq<|Q.rg<|Q.mv U<|Q.bi U U U<|Q.mv U<|?_
     refine S.tD 29 (λhc29=>?_) (λhc29=>?_)
     omega
     refine Q.on (Z.mv U)<|Q.on (Z.bi U U U)<|Q.on (Z.mv U)<|?_
     refine S.tD 32 (λhc32=>?_) (λhc32=>?_)
     refine Q.on (Z.mv U)<|Q.on (Z.bi U U U)<|Q.on (Z.pick U U)<|Q.pk U U<|Q.nt<|S.cF U (decide_eq_false (by omega))<|UW.skip<|UQ.then<|S.sq<|Q.rg<|Q.mv U<|Q.bi U U U<|Q.mv U<|?_
     refine S.tD 39 (λhc39=>?_) (λhc39=>?_)
     omega
     refine Q.on (Z.mv U)<|Q.on (Z.bi U U U)<|Q.pk U U<|Q.nt<|S.cT U (decide_eq_true (by omega))<|Q.rg<|Q.mv U<|S.qu (Z.call U U (λH=>hby H))<|?_
     refine Q.as U<|Q.as U<|Q.nt<|UW.ret<|UQ.aj<|S.bG (λhd=>ax U (Y U) (Y U))<|?_
     rfl
     refine Q.of<|Q.of<|Q.on (Z.pick U U)<|Q.pk U U<|Q.nt<|S.cF U U<|UW.skip<|UQ.then<|S.sq<|Q.rg<|Q.mv U<|Q.bi U U U<|Q.mv U<|?_
     refine S.tD 39 (λhc39=>?_) (λhc39=>?_)
     rotate_left
     omega
     rotate_right
     refine Q.of<|Q.of<|Q.pk U U<|Q.nt<|S.cT U U<|Q.rg<|Q.mv U<|S.qu (Z.call U U (λH=>hby H))<|?_
     refine Q.as U<|Q.as U<|Q.nt<|UW.ret<|UQ.aj<|S.bG (λhd=>ax U (Y U) (Y U))<|?_
     rfl
     refine Q.of<|Q.of<|Q.of<|Q.pk U U<|Q.nt<|S.cF U U<|UW.exit<|UQ.pass<|UQ.pass<|UQ.here<|UQ.then<|Q.rg<|Q.mv U<|S.qu (Z.call U U (λH=>hu1 H))<|Q.as U<|Q.nt<|S.sq<|Q.rg<|Q.mv U<|Q.bi U U U<|Q.mv U<|?_
     refine S.tD 29 (λhc29=>?_) (λhc29=>?_)
     omega
     refine Q.on (Z.mv U)<|Q.on (Z.bi U U U)<|Q.on (Z.mv U)<|?_
     refine S.tD 32 (λhc32=>?_) (λhc32=>?_)
     refine Q.on (Z.mv U)<|Q.on (Z.bi U U U)<|Q.on (Z.pick U U)<|Q.pk U U<|Q.nt<|S.cF U (decide_eq_false (by omega))<|UW.skip<|UQ.then<|S.sq<|Q.rg<|Q.mv U<|Q.bi U U U<|Q.mv U<|?_
     refine S.tD 39 (λhc39=>?_) (λhc39=>?_)
     omega
     refine Q.on (Z.mv U)<|Q.on (Z.bi U U U)<|Q.pk U U<|Q.nt<|S.cT U (decide_eq_true (by omega))<|Q.rg<|Q.mv U<|S.qu (Z.call U U (λH=>hby H))<|?_
     refine Q.as U<|Q.as U<|Q.nt<|UW.ret<|UQ.aj<|S.bG (λhd=>ax U (Y U) (Y U))<|?_
     rfl
     refine Q.of<|Q.of<|Q.on (Z.pick U U)<|Q.pk U U<|Q.nt<|S.cF U U<|UW.skip<|UQ.then<|S.sq<|Q.rg<|Q.mv U<|Q.bi U U U<|Q.mv U<|?_
     refine S.tD 39 (λhc39=>?_) (λhc39=>?_)
     rotate_left
     omega
     refine Q.of<|Q.of<|Q.pk U U<|Q.nt<|S.cT U U<|Q.rg<|Q.mv U<|S.qu (Z.call U U (λH=>hby H))<|?_
     refine Q.as U<|Q.as U<|Q.nt<|UW.ret<|UQ.aj<|S.bG (λhd=>ax U (Y U) (Y U))<|?_
     rfl
   ·have h6:=CY (u:=u) (by omega)
    have hb6:=lg u 6
    have Y7:=Lm u 6 h6
    have MI:∀H,F Tryz.prog 135 [.v (.string (u.extract 6 u.size))] H (bn H (.v (.int .i64 (aR u 6)))):=λH=>Y7▸CX (u.extract 6 u.size) (by rw[ByteArray.size_extract];omega) H
    by_cases c3:aR u 6<56320\/57343<aR u 6
    ·rw[Ty hno c1 c2 c3]
     refine S.sq<|Q.rg<|Q.mv U<|Q.bi U U U<|Q.mv U<|?_
     refine S.tD 9 (λAj=>?_) (λAj=>?_)
     omega
     refine Q.of<|Q.of<|Q.of<|Q.pk U U<|Q.nt<|S.cF U U<|UW.exit<|UQ.pass<|UQ.pass<|UQ.here<|UQ.then<|Q.rg<|Q.mv U<|S.qu (Z.call U U (λH=>hu1 H))<|Q.as U<|Q.nt<|S.sq<|Q.rg<|Q.mv U<|Q.bi U U U<|Q.mv U<|?_
     refine S.tD 29 (λhc29=>?_) (λhc29=>?_)
     omega
     refine Q.on (Z.mv U)<|Q.on (Z.bi U U U)<|Q.on (Z.mv U)<|?_
     refine S.tD 32 (λhc32=>?_) (λhc32=>?_)
     omega
     refine Q.of<|Q.of<|Q.on (Z.pick U U)<|Q.pk U U<|Q.nt<|S.cF U U<|UW.skip<|UQ.then<|S.sq<|Q.rg<|Q.mv U<|Q.bi U U U<|Q.mv U<|?_
     refine S.tD 39 (λhc39=>?_) (λhc39=>?_)
     omega
     refine Q.on (Z.mv U)<|Q.on (Z.bi U U U)<|Q.pk U U<|Q.nt<|S.cF U (decide_eq_false (by omega))<|UW.skip<|UQ.then<|Q.rg<|Q.mv U<|S.qu (Z.slt Tryz.underlying9 U (.lo U) (by omega) (by omega))<|S.qu (Z.call U U (λH=>MI H))<|Q.as U<|Q.nt<|S.sq<|Q.rg<|Q.mv U<|Q.bi U U U<|Q.mv U<|?_
     refine S.tD 50 (λVM=>?_) (λVM=>?_)
     refine Q.of<|Q.of<|Q.pk U U<|Q.nt<|S.cT U U<|Q.rg<|Q.as U<|Q.as U<|Q.nt<|UW.ret<|UQ.aj<|S.bG (λhd=>ax U (Y U) (Y U))<|?_
     rfl
     refine Q.on (Z.mv U)<|Q.on (Z.bi U U U)<|Q.pk U U<|Q.nt<|S.cT U (decide_eq_true (by omega))<|Q.rg<|Q.as U<|Q.as U<|Q.nt<|UW.ret<|UQ.aj<|S.bG (λhd=>ax U (Y U) (Y U))<|?_
     rfl
    ·rw[Tz hno c1 c2 c3]
     have hby:∀H,F Tryz.prog 136 [.v (.int .i64 (65536+1024*(aR u 0-55296)+aR u 6-56320))] H (bn H (.v (.string (bF (65536+1024*(aR u 0-55296)+aR u 6-56320))))):=λH=>A9 _ (by omega) (by omega) H
     refine S.sq<|Q.rg<|Q.mv U<|Q.bi U U U<|Q.mv U<|?_
     refine S.tD 9 (λAj=>?_) (λAj=>?_)
     omega
     refine Q.of<|Q.of<|Q.of<|Q.pk U U<|Q.nt<|S.cF U U<|UW.exit<|UQ.pass<|UQ.pass<|UQ.here<|UQ.then<|Q.rg<|Q.mv U<|S.qu (Z.call U U (λH=>hu1 H))<|Q.as U<|Q.nt<|S.sq<|Q.rg<|Q.mv U<|Q.bi U U U<|Q.mv U<|?_
     refine S.tD 29 (λhc29=>?_) (λhc29=>?_)
     omega
     refine Q.on (Z.mv U)<|Q.on (Z.bi U U U)<|Q.on (Z.mv U)<|?_
     refine S.tD 32 (λhc32=>?_) (λhc32=>?_)
     omega
     refine Q.of<|Q.of<|Q.on (Z.pick U U)<|Q.pk U U<|Q.nt<|S.cF U U<|UW.skip<|UQ.then<|S.sq<|Q.rg<|Q.mv U<|Q.bi U U U<|Q.mv U<|?_
     refine S.tD 39 (λhc39=>?_) (λhc39=>?_)
     omega
     refine Q.on (Z.mv U)<|Q.on (Z.bi U U U)<|Q.pk U U<|Q.nt<|S.cF U (decide_eq_false (by omega))<|UW.skip<|UQ.then<|Q.rg<|Q.mv U<|S.qu (Z.slt Tryz.underlying9 U (.lo U) (by omega) (by omega))<|S.qu (Z.call U U (λH=>MI H))<|Q.as U<|Q.nt<|S.sq<|Q.rg<|Q.mv U<|Q.bi U U U<|Q.mv U<|?_
     refine S.tD 50 (λVM=>?_) (λVM=>?_)
     omega
     refine Q.on (Z.mv U)<|Q.on (Z.bi U U U)<|Q.pk U U<|Q.nt<|S.cF U (decide_eq_false (by omega))<|UW.skip<|UQ.then<|Q.rg<|Q.mv U<|S.qu (Z.sub (r:=aR u 0-55296) U U (IntWalk.i64_in _ (by omega)))<|S.qu (Z.mul (r:=1024*(aR u 0-55296)) U U (IntWalk.i64_in _ (by omega)))<|S.qu (Z.add (r:=65536+1024*(aR u 0-55296)) U U (IntWalk.i64_in _ (by omega)))<|Q.mv U<|S.qu (Z.add (r:=65536+1024*(aR u 0-55296)+aR u 6) U U (IntWalk.i64_in _ (by omega)))<|S.qu (Z.sub (r:=65536+1024*(aR u 0-55296)+aR u 6-56320) U U (IntWalk.i64_in _ (by omega)))<|S.qu (Z.call U U (λH=>hby H))<|?_
     refine Q.as U<|Q.as U<|Q.nt<|UW.ret<|S.bG (λhd=>ax U (Y U) (Y U))<|?_
     rfl
theorem Hq(u:ByteArray)(p q:Nat)(hp:p<=u.size):aR (u.extract p u.size) q=aR u (p+q):=by
 have hz:(u.extract p u.size).size=u.size-p:=by rw[ByteArray.size_extract];omega
 unfold aR
 by_cases h:p+q+6<=u.size
 ·have e:∀j:Nat,j<6->aO (u.extract p u.size) ((q+j:Nat):Int)=aO u ((p+q+j:Nat):Int):=λj hj=>by
   rw[jC u p (q+j) (by omega),Nat.add_assoc]
  have e0:=e 0 (by decide)
  rw[Nat.add_zero,Nat.add_zero] at e0
  rw[hz,e0,e 1 (by decide),e 2 (by decide),e 3 (by decide),e 4 (by decide),e 5 (by decide)]
  by_cases hc:aO u ((p+q:Nat):Int)=92/\aO u ((p+q+1:Nat):Int)=117
  ·exact(if_pos ⟨by omega,hc⟩).trans (if_pos ⟨h,hc⟩).symm
  ·exact(if_neg (λg=>hc g.2)).trans (if_neg (λg=>hc g.2)).symm
 ·rw[if_neg (λg=>by have:=g.1;omega),if_neg (λg=>h g.1)]
theorem CZ{u:ByteArray}{p:Nat}(h:¬aR u p<0):p+6<=u.size:=by
 by_cases g:p+6<=u.size
 ·exact g
 ·exfalso;apply h;unfold aR;rw[if_neg (λk=>g k.1)];decide
theorem C8(c:Int)(h:0<=c/\c<256):eH c<256:=by
 unfold eH
 repeat' split
 all_goals omega
theorem JZ{u:ByteArray}{p n:Nat}{r:Int}(h:jy u p=some (r,n)):2<=n/\p+n<=u.size/\0<=r/\r<1114112:=by
 unfold jy at h
 have b1:=lg u p
 have b2:=lg u (p+6)
 split at h
 ·rename_i g
  have hm:=C8 _ (gG u ((p+1:Nat):Int))
  injection h with h;injection h with h1 h2
  omega
 ·split at h
  ·exact absurd h (by simp)
  ·rename_i g1 g2
   have h6:=CZ (u:=u) (p:=p) (by omega)
   split at h
   ·injection h with h;injection h with h1 h2
    omega
   ·split at h
    ·exact absurd h (by simp)
    ·rename_i g3 g4
     have h12:=CZ (u:=u) (p:=p+6) (by omega)
     injection h with h;injection h with h1 h2
     omega
theorem OC(u:ByteArray)(p:Nat)(hp:p<u.size):jy (u.extract p u.size) 0=jy u p:=by
 have hz:(u.extract p u.size).size=u.size-p:=by rw[ByteArray.size_extract];omega
 have h0:=Hq u p 0 (by omega)
 have h6:=Hq u p (0+6) (by omega)
 rw[Nat.add_zero] at h0
 rw[Nat.zero_add] at h6
 unfold jy
 rw[Nat.zero_add,Nat.zero_add,h0,h6]
 by_cases g:p+1<u.size
 ·rw[jC u p 1 g]
  by_cases hm:0<=eH (aO u ((p+1:Nat):Int))
  ·exact(if_pos ⟨by omega,hm⟩).trans (if_pos ⟨g,hm⟩).symm
  ·exact(if_neg (λk=>hm k.2)).trans (if_neg (λk=>hm k.2)).symm
 ·exact(if_neg (λk=>by have:=k.1;omega)).trans (if_neg (λk=>g k.1)).symm
theorem nV(r:Int):(bF r).size<=4:=by
 unfold bF
 repeat' split
 all_goals simp only[aY,aW];omega
def OD:Option (ByteArray×Nat)->AV
 |none=> .dH [.v (.string ⟨#[]⟩),.v (.int .i64 0)]
 |some (t,n)=> .dH [.v (.string t),.v (.int .i64 (n:Int))]
theorem TA{u:ByteArray}{p:Nat}{out:ByteArray}(h:¬p<u.size):jA u p out=none:=by rw[jA,dif_neg h]
theorem OE{u:ByteArray}{p:Nat}{out:ByteArray}(h:p<u.size)(h1:aO u (p:Int)=34):jA u p out=some (out,p+1):=by rw[jA,dif_pos h,if_pos h1]
theorem TB{u:ByteArray}{p:Nat}{out:ByteArray}(h:p<u.size)(h1:aO u (p:Int)=92)(h2:jy u p=none):jA u p out=none:=by
 rw[jA,dif_pos h,if_neg (by omega),if_pos h1,h2]
theorem Lp{u:ByteArray}{p n:Nat}{r:Int}{out:ByteArray}(h:p<u.size)(h1:aO u (p:Int)=92)(h2:jy u p=some (r,n)):jA u p out=jA u (p+n) (out++bF r):=by
 have hb:=JZ h2
 rw[jA,dif_pos h,if_neg (by omega),if_pos h1,h2]
 exact dif_pos (by omega)
theorem TC{u:ByteArray}{p:Nat}{out:ByteArray}(h:p<u.size)(h1:¬aO u (p:Int)=34)(h2:¬aO u (p:Int)=92)(h3:¬(0<fA (u.extract p u.size)/\32<=aO u (p:Int))):jA u p out=none:=by
 rw[jA,dif_pos h,if_neg h1,if_neg h2,dif_neg h3]
theorem Lr{u:ByteArray}{p:Nat}{out:ByteArray}(h:p<u.size)(h1:¬aO u (p:Int)=34)(h2:¬aO u (p:Int)=92)(h3:0<fA (u.extract p u.size)/\32<=aO u (p:Int)):
 jA u p out=jA u (p+(fA (u.extract p u.size)).toNat) (out++u.extract p (p+(fA (u.extract p u.size)).toNat)):=by
 rw[jA,dif_pos h,if_neg h1,if_neg h2,dif_pos h3]
theorem Fw(u:ByteArray)(Ll:u.size<=1000000)(H:Hp):F Tryz.prog 87 [.v (.string u)] H (bn H (OD (gV u))):=by
 by_cases hE:u.size=0
 ·have hu:u.toList=(⟨#[]⟩:ByteArray).toList:=by
   have:u=⟨#[]⟩:=ByteArray.ext (Array.eq_empty_of_size_eq_zero hE)
   rw[this]
  have hr:gV u=none:=if_pos (.inl hE)
  rw[hr]
  refine aA (n:=75) (H0:=H) (M:=[]) Tryz.func87 (by kernel_rfl) U (by rw[Tryz.ntmps87];rfl) .nil<|?_
  focus
   refine Q.rg<|Q.as U<|Q.as U<|Q.nt<|S.sq<|Q.rg<|Q.mv U<|S.qu (Z.bs U U U)<|Q.mv U<|?_
   refine S.tE 11 (λiQ=>?_) (λiQ=>?_)
   rotate_left
   contradiction
   refine Q.of<|Q.of<|Q.of<|Q.pk U U<|Q.nt<|S.cT U U<|Q.rg<|Q.as U<|Q.as U<|Q.nt<|UW.ret<|UQ.aj<|S.bG (λhd=>ax U (Y U) (Y U))<|?_
   rfl
 ·have hne:¬u.toList=(⟨#[]⟩:ByteArray).toList:=λh=>by
   have:=kK h
   rw[this] at hE
   exact hE U
  by_cases Xx:aO u 0=34
  ·have hr:gV u=jA u 1 ⟨#[]⟩:=if_neg (λg=>g.elim hE (λk=>k Xx))
   rw[hr]
   refine aA (n:=75) (H0:=H) (M:=[]) Tryz.func87 (by kernel_rfl) U (by rw[Tryz.ntmps87];rfl) .nil<|?_
   refine Q.rg<|Q.as U<|Q.as U<|Q.nt<|S.sq<|Q.rg<|Q.mv U<|S.qu (Z.bs U U U)<|Q.mv U<|S.tF 11 (bf (by assumption))<|?_
   refine Q.on (Z.mv U)<|S.dd<|D.on<|D.ib Tryz.underlying9 U U (by omega) (by omega) λXc=>Q.on (Z.bi U U U)<|Q.pk U U<|Q.nt<|S.cF U (fE (by omega))<|UW.skip<|UQ.then<|Q.rg<|Q.as U<|Q.nt<|Q.rg<|Q.as U<|Q.nt<|S.sq<|UW.block<|S.loop (λa:Nat×ByteArray=>[(5,.v (.int .i64 (a.1:Int))),(4,.v (.string a.2)),(0,.v (.string u))]) (λ_=>[]) (λa=>a.1<=u.size/\a.2.size<=4*a.1/\jA u 1 ⟨#[]⟩=jA u a.1 a.2) (λa=>u.size-a.1) (1,⟨#[]⟩) ⟨by show 1<=u.size;omega,Nat.zero_le _,rfl⟩ ⟨rfl,rfl,rfl,trivial⟩ (.refl _)<|?_
   rintro⟨p,out⟩ ⟨hp,ho,hl⟩
   dsimp only at hp ho hl⊢
   have hes:(u.extract p u.size).size<=1000000:=by rw[ByteArray.size_extract];omega
   by_cases hlt:p<u.size
   ·by_cases hq:aO u (p:Int)=34
    ·rw[hl,OE hlt hq]
     focus
      refine S.sq<|Q.rg<|Q.mv U<|Q.mv U<|S.qu (Z.fC Tryz.underlying9 U)<|Q.bi U U U<|Q.mv U<|?_
      refine S.tD 20 (λmO=>?_) (λmO=>?_)
      rotate_left
      omega
      refine Q.on (Z.mv U)<|Q.on (Z.mv U)<|S.dd<|D.on<|D.ib Tryz.underlying9 U U (by omega) (by omega) λh23=>Q.on (Z.bi U U U)<|Q.pk U U<|Q.nt<|S.cF U (fE (by omega))<|UW.exit<|UQ.pass<|UQ.pass<|UQ.here<|UQ.then<|S.sq<|Q.rg<|Q.mv U<|Q.mv U<|S.qu (Z.fC Tryz.underlying9 U)<|Q.bi U U U<|Q.nt<|S.cF U (decide_eq_false (by omega))<|UW.skip<|UQ.then<|Q.rg<|Q.mv U<|Q.mv U<|S.qu (Z.add (r:=((p+1:Nat):Int)) U U (IntWalk.i64_in _ (by omega)))<|Q.as U<|Q.as U<|Q.nt<|UW.ret<|S.bG (λhd=>ax U (Y U) (Y U))<|?_
      rfl
    ·by_cases hb:aO u (p:Int)=92
     ·have hat:=OC u p hlt
      have hcs:∀H,F Tryz.prog 111 [.v (.string (u.extract p u.size))] H (bn H (Xw (jy u p))):=λH=>hat▸Ho (u.extract p u.size) hes H
      cases uZ:jy u p with
      |none=>
       rw[uZ] at hcs
       rw[hl,TB hlt hb uZ]
       focus
        refine S.sq<|Q.rg<|Q.mv U<|Q.mv U<|S.qu (Z.fC Tryz.underlying9 U)<|Q.bi U U U<|Q.mv U<|?_
        refine S.tD 20 (λmO=>?_) (λmO=>?_)
        rotate_left
        omega
        refine Q.on (Z.mv U)<|Q.on (Z.mv U)<|S.dd<|D.on<|D.ib Tryz.underlying9 U U (by omega) (by omega) λh23=>Q.on (Z.bi U U U)<|Q.pk U U<|Q.nt<|S.cT U (jM (by omega))<|UW.skip<|UQ.then<|UW.block<|S.sq<|Q.rg<|Q.mv U<|Q.mv U<|S.dd<|D.ib Tryz.underlying9 U U (by omega) (by omega) λXr=>Q.bi U U U<|Q.nt<|S.cT U (cZ (by omega))<|Q.rg<|Q.mv U<|Q.mv U<|S.qu (Z.slt Tryz.underlying9 U (.lo U) (by omega) (by omega))<|S.qu (Z.call U U (λH=>hcs H))<|Q.mv U<|S.qu (Z.ex U U)<|S.qu (Z.ex U U)<|Q.as U<|Q.as U<|Q.nt<|S.sq<|Q.rg<|Q.mv U<|Q.bi U U U<|Q.nt<|S.cT U (cZ (by omega))<|Q.rg<|Q.as U<|Q.as U<|Q.nt<|UW.ret<|UQ.aj<|UQ.aj<|UQ.az<|UQ.aj<|UQ.az<|UQ.aj<|S.bG (λhd=>ax U (Y U) (Y U))<|?_
        rfl
      |some rn=>
       obtain⟨r,n⟩:=rn
       rw[uZ] at hcs
       obtain⟨hb1,hb2,hb3,hb4⟩:=JZ uZ
       have hz:=nV r
       have hq:p+n<=u.size/\(out++bF r).size<=4*(p+n)/\jA u 1 ⟨#[]⟩=jA u (p+n) (out++bF r):=⟨hb2,by rw[aY];omega,hl.trans (Lp hlt hb uZ)⟩
       focus
        refine S.sq<|Q.rg<|Q.mv U<|Q.mv U<|S.qu (Z.fC Tryz.underlying9 U)<|Q.bi U U U<|Q.mv U<|?_
        refine S.tD 20 (λmO=>?_) (λmO=>?_)
        rotate_left
        omega
        refine Q.on (Z.mv U)<|Q.on (Z.mv U)<|S.dd<|D.on<|D.ib Tryz.underlying9 U U (by omega) (by omega) λh23=>Q.on (Z.bi U U U)<|Q.pk U U<|Q.nt<|S.cT U (jM (by omega))<|UW.skip<|UQ.then<|UW.block<|S.sq<|Q.rg<|Q.mv U<|Q.mv U<|S.dd<|D.ib Tryz.underlying9 U U (by omega) (by omega) λXr=>Q.bi U U U<|Q.nt<|S.cT U (cZ (by omega))<|Q.rg<|Q.mv U<|Q.mv U<|S.qu (Z.slt Tryz.underlying9 U (.lo U) (by omega) (by omega))<|S.qu (Z.call U U (λH=>hcs H))<|Q.mv U<|S.qu (Z.ex U U)<|S.qu (Z.ex U U)<|Q.as U<|Q.as U<|Q.nt<|S.sq<|Q.rg<|Q.mv U<|Q.bi U U U<|Q.nt<|S.cF U (bf (by omega))<|UW.skip<|UQ.then<|Q.rg<|Q.mv U<|Q.mv U<|S.qu (Z.cat U U (by omega))<|Q.as U<|Q.nt<|Q.rg<|Q.mv U<|Q.mv U<|S.qu (Z.add (r:=((p+n:Nat):Int)) U U (IntWalk.i64_in _ (by omega)))<|Q.as U<|Q.nt<|UW.exit<|UQ.pass<|UQ.here<|?_
        refine S.back (p+n,out++bF r) ⟨rfl,rfl,rfl,trivial⟩ (.refl _) (by omega) (by omega)
     ·obtain⟨ho1,ho2⟩:=vT (u.extract p u.size)
      have hsz:(u.extract p u.size).size=u.size-p:=by rw[ByteArray.size_extract];omega
      by_cases hg:0<fA (u.extract p u.size)/\32<=aO u (p:Int)
      ·obtain⟨m,hm⟩:=Int.eq_ofNat_of_zero_le ho1
       have MI:=Lr (out:=out) hlt hq hb hg
       rw[hm,Int.toNat_natCast] at MI
       rw[hm] at ho2
       obtain⟨hg1,hg2⟩:=hg
       rw[hm] at hg1
       have hes2:(u.extract p (p+m)).size=m:=by rw[ByteArray.size_extract];omega
       have hq2:p+m<=u.size/\(out++u.extract p (p+m)).size<=4*(p+m)/\jA u 1 ⟨#[]⟩=jA u (p+m) (out++u.extract p (p+m)):=⟨by omega,by rw[aY];omega,hl.trans MI⟩
       focus
        refine S.sq<|Q.rg<|Q.mv U<|Q.mv U<|S.qu (Z.fC Tryz.underlying9 U)<|Q.bi U U U<|Q.mv U<|?_
        refine S.tD 20 (λmO=>?_) (λmO=>?_)
        rotate_left
        omega
        refine Q.on (Z.mv U)<|Q.on (Z.mv U)<|S.dd<|D.on<|D.ib Tryz.underlying9 U U (by omega) (by omega) λh23=>Q.on (Z.bi U U U)<|Q.pk U U<|Q.nt<|S.cT U (jM (by omega))<|UW.skip<|UQ.then<|UW.block<|S.sq<|Q.rg<|Q.mv U<|Q.mv U<|S.dd<|D.ib Tryz.underlying9 U U (by omega) (by omega) λXr=>Q.bi U U U<|Q.nt<|S.cF U (bf (by omega))<|UW.skip<|UQ.then<|Q.rg<|Q.mv U<|Q.mv U<|S.qu (Z.slt Tryz.underlying9 U (.lo U) (by omega) (by omega))<|S.qu (Z.eq (u':=.v (.int .i64 (m:Int))) (Z.call U U (λH=>Al (u.extract p u.size) (by omega) H)) (by rw[hm]))<|?_
        refine Q.as U<|Q.nt<|S.sq<|Q.rg<|Q.mv U<|Q.bi U U U<|Q.mv U<|?_
        refine S.tE 51 (λuT=>?_) (λuT=>?_)
        omega
        refine Q.on (Z.mv U)<|Q.on (Z.mv U)<|S.dd<|D.on<|D.ib Tryz.underlying9 U U (by omega) (by omega) λh54=>Q.on (Z.bi U U U)<|Q.pk U U<|Q.nt<|S.cF U (decide_eq_false (by omega))<|UW.skip<|UQ.then<|Q.rg<|Q.mv U<|Q.mv U<|Q.mv U<|Q.mv U<|Q.mv U<|S.qu (Z.add (r:=((p+m:Nat):Int)) U U (IntWalk.i64_in _ (by omega)))<|S.qu (Z.slt Tryz.underlying9 U (.both U U) (by omega) (by omega))<|S.qu (Z.cat U U (by omega))<|Q.as U<|Q.nt<|S.rg<|Q.mv U<|Q.mv U<|S.qu (Z.add (r:=((p+m:Nat):Int)) U U (IntWalk.i64_in _ (by omega)))<|Q.as U<|US.nil<|UQ.aI<|?_
        refine S.back (p+m,out++u.extract p (p+m)) ⟨rfl,rfl,rfl,trivial⟩ (.refl _) (by omega) (by omega)
      ·rw[hl,TC hlt hq hb hg]
       focus
        refine S.sq<|Q.rg<|Q.mv U<|Q.mv U<|S.qu (Z.fC Tryz.underlying9 U)<|Q.bi U U U<|Q.mv U<|?_
        refine S.tD 20 (λmO=>?_) (λmO=>?_)
        rotate_left
        omega
        refine Q.on (Z.mv U)<|Q.on (Z.mv U)<|S.dd<|D.on<|D.ib Tryz.underlying9 U U (by omega) (by omega) λh23=>Q.on (Z.bi U U U)<|Q.pk U U<|Q.nt<|S.cT U (jM (by omega))<|UW.skip<|UQ.then<|UW.block<|S.sq<|Q.rg<|Q.mv U<|Q.mv U<|S.dd<|D.ib Tryz.underlying9 U U (by omega) (by omega) λXr=>Q.bi U U U<|Q.nt<|S.cF U (bf (by omega))<|UW.skip<|UQ.then<|Q.rg<|Q.mv U<|Q.mv U<|S.qu (Z.slt Tryz.underlying9 U (.lo U) (by omega) (by omega))<|S.qu (Z.call U U (λH=>Al (u.extract p u.size) (by omega) H))<|Q.as U<|Q.nt<|S.sq<|Q.rg<|Q.mv U<|Q.bi U U U<|Q.mv U<|?_
        refine S.tE 51 (λuT=>?_) (λuT=>?_)
        refine Q.of<|Q.of<|Q.of<|Q.of<|Q.pk U U<|Q.nt<|S.cT U U<|Q.rg<|Q.as U<|Q.as U<|Q.nt<|UW.ret<|UQ.aj<|UQ.az<|UQ.aj<|UQ.az<|UQ.aj<|S.bG (λhd=>ax U (Y U) (Y U))<|?_
        rfl
        refine Q.on (Z.mv U)<|Q.on (Z.mv U)<|S.dd<|D.on<|D.ib Tryz.underlying9 U U (by omega) (by omega) λh54=>Q.on (Z.bi U U U)<|Q.pk U U<|Q.nt<|S.cT U (decide_eq_true (by omega))<|Q.rg<|Q.as U<|Q.as U<|Q.nt<|UW.ret<|UQ.aj<|UQ.az<|UQ.aj<|UQ.az<|UQ.aj<|S.bG (λhd=>ax U (Y U) (Y U))<|?_
        rfl
   ·rw[hl,TA hlt]
    refine S.sq<|Q.rg<|Q.mv U<|Q.mv U<|S.qu (Z.fC Tryz.underlying9 U)<|Q.bi U U U<|Q.mv U<|?_
    refine S.tD 20 (λmO=>?_) (λmO=>?_)
    omega
    refine Q.of<|Q.of<|Q.of<|Q.of<|Q.pk U U<|Q.nt<|S.cF U U<|UW.exit<|UQ.pass<|UQ.pass<|UQ.here<|UQ.then<|S.sq<|Q.rg<|Q.mv U<|Q.mv U<|S.qu (Z.fC Tryz.underlying9 U)<|Q.bi U U U<|Q.nt<|S.cT U (decide_eq_true (by omega))<|Q.rg<|Q.as U<|Q.as U<|Q.nt<|UW.ret<|UQ.aj<|S.bG (λhd=>ax U (Y U) (Y U))<|?_
    rfl
  ·have hr:gV u=none:=if_pos (.inr Xx)
   rw[hr]
   refine aA (n:=75) (H0:=H) (M:=[]) Tryz.func87 (by kernel_rfl) U (by rw[Tryz.ntmps87];rfl) .nil<|?_
   refine Q.rg<|Q.as U<|Q.as U<|Q.nt<|S.sq<|Q.rg<|Q.mv U<|S.qu (Z.bs U U U)<|Q.mv U<|?_
   refine S.tE 11 (λiQ=>?_) (λiQ=>?_)
   contradiction
   refine Q.on (Z.mv U)<|S.dd<|D.on<|D.ib Tryz.underlying9 U U (by omega) (by omega) λXc=>Q.on (Z.bi U U U)<|Q.pk U U<|Q.nt<|S.cT U (jM (by omega))<|Q.rg<|Q.as U<|Q.as U<|Q.nt<|UW.ret<|UQ.aj<|S.bG (λhd=>ax U (Y U) (Y U))<|?_
   rfl
theorem Y8:eQ Tryz.prog 35=some (false,1):=by kernel_rfl
theorem Xy:eQ Tryz.prog 66=some (true,2):=by kernel_rfl
theorem Xz:eQ Tryz.prog 130=some (true,256):=by kernel_rfl
theorem z66:(Tryz.prog.info? 66).map (·.zero)=some (some (.agg #[.int .u16 0,.int .i64 0])):=by kernel_rfl
theorem TD:dM Tryz.prog 60 0=some 0:=by kernel_rfl
theorem eu:dM Tryz.prog 60 1=some 1:=by kernel_rfl
theorem mZ:dM Tryz.prog 60 2=some 2:=by kernel_rfl
theorem XA:dM Tryz.prog 66 0=some 0:=by kernel_rfl
theorem XB:dM Tryz.prog 66 1=some 1:=by kernel_rfl
theorem XC:lD Tryz.prog 60=some ([.string ⟨#[]⟩,.int .i64 0,.int .i64 0],[(0,1),(1,1),(2,1)]):=by kernel_rfl
theorem Y9:lD Tryz.prog 66=some ([.int .u16 0,.int .i64 0],[(0,1),(1,1)]):=by kernel_rfl
def gu(s:ByteArray)(q d:Nat):List AV:=[.v (.string s),.v (.int .i64 (q:Int)),.v (.int .i64 (d:Int))]
def bN(p:Nat)(s:ByteArray)(q d:Nat):Nat×Ob:=(p,.box 60 (gu s q d))
def F5(e:Int)(q:Nat):AV:=.zk 66 (.agg [.v (.int .u16 e),.v (.int .i64 (q:Int))])
theorem cz(p:Nat)(s:ByteArray)(q d:Nat)(hs:s.size<=1000000)(hq:q<=s.size)(H:Hp)(hp:H p=some (.box 60 (gu s q d))):F Tryz.prog 56 [.ptr p 0] H (bn H (.v (.string (s.extract q s.size)))):=by
 refine aA (n:=12) (H0:=H) (M:=[]) Tryz.func56 (by kernel_rfl) U (by rw[Tryz.ntmps56];rfl) .nil<|?_
 refine Q.rg<|Q.as U<|Q.nt<|S.sq<|?_
 refine' UW.dC (by kernel_rfl) [0,1,3,7,0,16,48,112,255,511] [some 3,some 4,some 5,some 6,some 7,some 8,some 9,some 10,some 11,some 2] [some (3,_),some (4,_),some (5,_),some (6,_),some (7,_),some (8,_),some (9,_),some (10,_),some (11,_),some (2,_)] [] [3,7] U (by decide) (by decide) (I.free (by decide) U U ?jK (I.free (by decide) U U ?jL (I.free (by decide) U U ?u6 (I.held (by decide) U U ?J2 (I.free (by decide) U U ?J3 (I.free (by decide) U U ?J4 (I.free (by decide) U U ?J5 (I.held (by decide) U U ?J6 (I.free (by decide) U U ?J7 (I.free (by decide) U U ?J8 I.nil)))))))))) ?u7
 case jK=>(intro _;exact Z.mv rfl)
 case jL=>(intro _;exact Z.iC rfl)
 case u6=>(intro _;exact Z.fa TD rfl)
 case J2=>exact Z.WY hp fJ rfl rfl
 case J3=>(intro _;exact Z.mv rfl)
 case J4=>(intro _;exact Z.iC rfl)
 case J5=>(intro _;exact Z.fa eu rfl)
 case J6=>exact Z.WY hp bC rfl rfl
 case J7=>(intro _;exact Z.slt Tryz.underlying9 rfl (.lo rfl) (by omega) (by omega))
 case J8=>(intro _;exact Z.as rfl)
 refine CH.nil<|?_
 simp only[app,bV]
 refine UQ.then<|UW.ret<|S.bG (λ_=>au U U)<|?_
 rfl
theorem dK(p:Nat)(s:ByteArray)(q d:Nat)(e:Int)(H:Hp)(hp:H p=some (.box 60 (gu s q d))):F Tryz.prog 57 [.ptr p 0,.v (.int .u16 e)] H (bn H (F5 e q)):=by
 refine aA (n:=12) (H0:=H) (M:=[]) Tryz.func57 (by kernel_rfl) U (by rw[Tryz.ntmps57];rfl) .nil<|?_
 refine Q.rg<|Q.as U<|Q.nt<|Q.rg<|Q.mv U<|Q.mv U<|S.qu (Z.iC U)<|Q.fa eu U<|S.qu (Z.WY hp bC U U)<|S.qu (Z.bd [0,1] Y9 U U U U U U)<|S.qu (Z.mki U)<|Q.as U<|Q.nt<|UW.ret<|S.bG (λ_=>au U U)<|?_
 rfl
theorem xh(p:Nat)(s:ByteArray)(q d:Nat)(hs:s.size<=1000000)(hq:q<=s.size)(c:ByteArray)(H:Hp)(hp:H p=some (.box 60 (gu s q d))):F Tryz.prog 77 [.ptr p 0,.v (.string c)] H (bn H (.v (.bool (Lib.hasPrefix (s.extract q s.size).data.toList c.data.toList)))):=by
 have hr:=cz p s q d hs hq
 refine aA (n:=9) (H0:=H) (M:=[]) Tryz.func77 (by kernel_rfl) U (by rw[Tryz.ntmps77];rfl) .nil<|?_
 refine Q.rg<|Q.as U<|Q.nt<|Q.rg<|Q.mv U<|S.qu (Z.aQ U U (λ_=>hr H hp))<|Q.mv U<|S.qu (Z.call U U (λH=>bW _ _ H))<|Q.as U<|Q.nt<|UW.ret<|S.bG (λ_=>au U U)<|?_
 rfl
end Go.Proofs.YtbooeongacgnbaaGreatDoor
end
