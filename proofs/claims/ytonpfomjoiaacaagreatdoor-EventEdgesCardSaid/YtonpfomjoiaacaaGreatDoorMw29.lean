/- A part of the proof. -/
import Derived.Test.YtonpfomjoiaacaaGreatDoorMw28
import Derived.Test.YtonpfomjoiaacaaGreatDoorMw18
import Derived.Test.YtonpfomjoiaacaaGreatDoorMw17
set_option maxRecDepth 100000
set_option maxHeartbeats 4000000
set_option linter.unusedSectionVars false
set_option linter.unusedVariables false
set_option linter.unusedSimpArgs false
section
namespace Go.Proofs.YtonpfomjoiaacaaGreatDoor
open Go Go.iG Go.RowKit
theorem aaf{x:V}(hx:Fits x)(key:ByteArray):Fits (bq x key):=by
 unfold bq
 split
 ·rename_i i hp
  cases hx with
  |mk k n t ks vs h1 h2 h3=>
   refine .mk _ _ _ _ _ ?_ ?_ (λy hy=>?_)
   ·unfold cutAt cutV;simp[zl,Af];omega
   ·unfold cutAt cutV;simp[zl,Af];omega
   ·unfold cutAt cutV at hy
    rcases List.mem_append.1 hy with h|h
    ·exact h3 _ (List.mem_of_mem_take (List.mem_of_mem_take h))
    ·exact h3 _ (List.mem_of_mem_take (List.mem_of_mem_drop h))
 ·exact hx
def qN(kind:ByteArray)(x:V):Nat->V
 |0=>x
 |j+1=>if gK kind (x.ks.getD j ⟨#[]⟩)=true then qN kind x j else bq (qN kind x j) (x.ks.getD j ⟨#[]⟩)
def Bl(kind:ByteArray)(x:V):V:=qN kind x x.ks.length
theorem u7(kind:ByteArray){x:V}(hx:Fits x):∀j,Fits (qN kind x j)
 |0=>hx
 |j+1=>by
  unfold qN
  split
  ·exact u7 kind hx j
  ·exact aaf (u7 kind hx j) _
theorem LQ(kind:ByteArray)(x:V)(hx:Fits x)(H:Hp):au Tryz.prog 126 [.v (.string kind),.agg (aC x)] H (bB H (.agg (aC (Bl kind x)))):=by
 have hcu:=u7 kind hx
 have hcv:Bl kind x=qN kind x x.ks.length:=rfl
 have hc0:qN kind x 0=x:=rfl
 have hcs:∀j,qN kind x (j+1)=if gK kind (x.ks.getD j ⟨#[]⟩)=true then qN kind x j else bq (qN kind x j) (x.ks.getD j ⟨#[]⟩):=λj=>rfl
 rw[hcv]
 clear hcv
 generalize qN kind x=cu at*
 obtain⟨k,n,t,ks,vs⟩:=x
 have hkl:(ks.map encS).length=ks.length:=List.length_map ..
 have hb:ks.length<=1000000:=by cases hx with|mk _ _ _ _ _ a b c=>exact a
 simp only[V.ks] at hcs⊢
 refine aF (n:=31) (H0:=H) (I:=[]) Tryz.func126 (by kernel_rfl) U (by rw[Tryz.ntmps126];rfl) .nil<|?_
 refine Q.rg<|S.dd<|D.box U U U λp3=>S.dd<|D.al z26 U U U λp4=>Q.nt<|Q.rg<|S.qu (Z.bW 1 av U U U)<|S.dd<|D.al z26 U U U λp5=>S.s<|D.st 0 av U U U U U U U U λ_=>Q.nt<|S.sq<|Q.rg<|Q.as U<|Q.nt<|UW.block<|S.loop (λj:Nat×V=>[(6,.v (.int .i64 (j.1:Int))),(5,.ptr p5 0),(4,.ptr p4 0),(3,.ptr p3 0),(0,.v (.string kind))]) (λj=>[(p5,.box 26 (aC j.2)),(p4,.box 26 (aC zeroV)),(p3,.box 26 (aC (.mk k n t ks vs)))]) (λj=>j.1<=ks.length/\j.2=cu j.1) (λj=>ks.length-j.1) (0,.mk k n t ks vs) ⟨Nat.zero_le _,hc0.symm⟩ ⟨rfl,rfl,rfl,rfl,rfl,trivial⟩ (.refl _)<|?_
 rintro⟨j,y⟩ ⟨hj,hy⟩
 dsimp only at hj hy⊢
 by_cases hlt:j<ks.length
 ·have Ij:=eY ks j hlt
  have hcj:cu (j+1)=if gK kind ks[j]=true then cu j else bq (cu j) ks[j]:=by
   have h:=hcs j
   simpa only[getD_at hlt] using h
  have hkk:∀H,au Tryz.prog 174 [.v (.string kind),.v (.string ks[j])] H (bB H (.v (.bool (gK kind ks[j])))):=λH=>Qz kind ks[j] H
  have hfy:Fits y:=hy▸hcu j
  rw[<-hy] at hcj
  by_cases hkt:gK kind ks[j]=true
  ·rw[if_pos hkt] at hcj
   have hnn:(!gK kind ks[j])=false:=by rw[hkt];rfl
   refine S.sq<|Q.rg<|Q.mv U<|Q.fa dJ U<|Q.lc 2 dB U U U<|S.qu (Z.fM aZ U)<|Q.bi U U U<|Q.nt<|S.cT U (decide_eq_true (by omega))<|UW.skip<|UQ.then<|S.sq<|UW.block<|Q.rg<|Q.mv U<|Q.fa dJ U<|Q.lc 2 dB U U U<|Q.mv U<|S.qu (Z.ia aZ U U (by omega) (by assumption) (by rfl))<|?_
   refine S.qu (Z.fO dW U)<|S.qu (Z.call U U (λH=>hkk H))<|S.qu (Z.not U)<|Q.nt<|S.cF U (by assumption)<|?_
   refine UW.skip<|UQ.aB<|UQ.then<|S.rg<|Q.mv U<|S.qu (Z.add (r:=((j+1:Nat):Int)) U U (IntWalk.i64_in _ (by omega)))<|Q.as U<|US.nil<|?_
   refine S.back (j+1,y) ⟨rfl,rfl,rfl,rfl,rfl,trivial⟩ (.refl _) ?_ (by omega)
   exact⟨hlt,hcj.symm⟩
  ·rw[if_neg hkt] at hcj
   have Xo:gK kind ks[j]=false:=by simpa using hkt
   have hnn:(!gK kind ks[j])=true:=by rw[Xo];rfl
   have hw:∀H,au Tryz.prog 16 [.agg (aC y),.v (.string ks[j])] H (bB H (.agg (aC (bq y ks[j])))):=λH=>nX y hfy ks[j] H
   generalize bq y ks[j]=y1 at*
   refine S.sq<|Q.rg<|Q.mv U<|Q.fa dJ U<|Q.lc 2 dB U U U<|S.qu (Z.fM aZ U)<|Q.bi U U U<|Q.nt<|S.cT U (decide_eq_true (by omega))<|UW.skip<|UQ.then<|S.sq<|UW.block<|Q.rg<|Q.mv U<|Q.fa dJ U<|Q.lc 2 dB U U U<|Q.mv U<|S.qu (Z.ia aZ U U (by omega) (by assumption) (by rfl))<|?_
   refine S.qu (Z.fO dW U)<|S.qu (Z.call U U (λH=>hkk H))<|S.qu (Z.not U)<|Q.nt<|S.cT U (by assumption)<|?_
   refine' UW.bG (by kernel_rfl) [0,0,2,0,14,30,63,127] [some 23,some 24,some 25,some 26,some 27,some 28,some 29,none] [some (23,_),some (24,_),some (25,_),some (26,_),some (27,_),some (28,_),some (29,_),none] [7] [0,2,5] U (by decide) (by decide) (M.held (by decide) U U ?jG (M.free (by decide) U U ?jH (M.held (by decide) U U ?jI (M.free (by decide) U U ?jJ (M.free (by decide) U U ?jK (M.held (by decide) U U ?kE (M.free (by decide) U U ?nK (M.skip M.nil)))))))) ?uH
   case jG=>exact Z.bW 0 av rfl rfl (Y _)
   case jH=>(intro _;exact Z.fa dJ rfl)
   case jI=>exact Z.dM 2 dB rfl rfl rfl
   case jJ=>(intro _;exact Z.mv rfl)
   case jK=>(intro _;exact Z.ia aZ rfl rfl (by omega) (by assumption) (by rfl))
   case kE=>exact Z.fO dW rfl
   case nK=>(intro _;exact Z.call rfl rfl (λH=>hw H))
   refine CH.bX U U<|D.vW 0 av U U U U (az _) (Y _) (Y _) U λ_=>CH.nil<|?_
   simp only[app,bS]
   refine UQ.aB<|UQ.then<|S.rg<|Q.mv U<|S.qu (Z.add (r:=((j+1:Nat):Int)) U U (IntWalk.i64_in _ (by omega)))<|Q.as U<|US.nil<|?_
   refine S.back (j+1,y1) ⟨rfl,rfl,rfl,rfl,rfl,trivial⟩ (.refl _) ?_ (by omega)
   exact⟨hlt,hcj.symm⟩
 ·have hjl:j=ks.length:=by omega
  subst hjl
  rw[<-hy]
  refine S.sq<|Q.rg<|Q.mv U<|Q.fa dJ U<|Q.lc 2 dB U U U<|S.qu (Z.fM aZ U)<|Q.bi U U U<|Q.nt<|S.cF U (decide_eq_false (by omega))<|UW.exit<|UQ.pass<|UQ.pass<|UQ.here<|UQ.then<|Q.rg<|S.qu (Z.bW 0 av U U (Y _))<|S.s<|D.vW 1 av U U U U (by exact az _) (Y _) U U λ_=>?_
  refine Q.nt<|UW.ret<|S.bH (λhd=>aX (k:=1) hd U U U gQ (by rw[Y];exact gT))<|?_
  rfl
structure Ev(x:V)(N:Nat):Prop where
 k:x.k=5
 len:x.ks.length=x.vs.length
 GU:Asc x.ks
 le:x.ks.length<=N
 keys:∀s∈x.ks,s.size<=4000000
 vals:∀v∈x.vs,Fits v
theorem Ev.fits{x:V}{N:Nat}(h:Ev x N)(hN:N<=1000000):Fits x:=Fits.of (by have:=h.le;omega) (by have:=h.le;have:=h.len;omega) h.vals
theorem Bn:Ev (.mk 5 0 ⟨#[]⟩ [] []) 0:=by
 refine⟨rfl,rfl,?_,Nat.le_refl _,?_,?_⟩
 ·intro i j hi;exact absurd hi (Nat.not_lt_zero _)
 ·intro s h;cases h
 ·intro v h;cases h
theorem Ev.with{x:V}{N:Nat}(h:Ev x N){key:ByteArray}(hk:key.size<=4000000){y:V}(hy:Fits y):Ev (aQ x key y) (N+1):=by
 obtain⟨k,n,t,ks,vs⟩:=x
 have h1:k=5:=h.k
 subst h1
 have hl:ks.length=vs.length:=h.len
 have hle:ks.length<=N:=h.le
 obtain⟨ks',vs',e1,e2,e3,e4,e5⟩:=CP (n:=n) (t:=t) hl h.GU key y
 have hw:=(uY (.mk 5 n t ks vs) key y).1
 rw[e1] at hw⊢
 have hw':ks'.length<=ks.length+1:=hw
 exact⟨rfl,e2,e3,by show ks'.length<=N+1;omega,λs hs=>(e4 s hs).elim (h.keys s) (λe=>e▸hk),λv hv=>(e5 v hv).elim (h.vals v) (λe=>e▸hy)⟩
def mU(x o:V)(key:ByteArray):V:=if (aH x key).2=true then aQ o key (if key=aO/\(aH x key).1.k=5 then Bl (aH x dN).1.t (aH x key).1 else(aH x key).1) else o
def yI(x:V):Nat->V
 |0=> .mk 5 0 ⟨#[]⟩ [] []
 |j+1=>mU x (yI x j) (dH.getD j ⟨#[]⟩)
def Ip(x:V):V:=if x.k=5 then yI x 10 else zeroV
theorem QL:∀s∈dH,s.size<=4000000:=by decide
theorem NV(j:Nat)(hj:j<10):(dH.getD j ⟨#[]⟩).size<=4000000:=QL _ (fI hj)
theorem QM(kind:ByteArray){x:V}(hx:Fits x):Fits (Bl kind x):=u7 kind hx _
theorem Sb{x:V}(hx:Fits x):∀j,j<=10->Ev (yI x j) j
 |0,_=>Bn
 |j+1,hj=>by
  have ih:=Sb hx j (by omega)
  show Ev (mU x (yI x j) (dH.getD j ⟨#[]⟩)) (j+1)
  unfold mU
  split
  ·refine ih.with (NV j (by omega))<|?_
   split
   ·exact QM _ (mR hx _)
   ·exact mR hx _
  ·exact⟨ih.k,ih.len,ih.GU,by have:=ih.le;omega,ih.keys,ih.vals⟩
theorem aag{x o:V}{key:ByteArray}(h:(aH x key).2=false):mU x o key=o:=by unfold mU;rw[if_neg (by rw[h];simp)]
theorem QN{x o:V}{key:ByteArray}(h:(aH x key).2=true)(h2:¬(key=aO/\(aH x key).1.k=5)):mU x o key=aQ o key (aH x key).1:=by unfold mU;rw[if_pos h,if_neg h2]
theorem Ud{x o:V}{key:ByteArray}(h:(aH x key).2=true)(h2:key=aO/\(aH x key).1.k=5):mU x o key=aQ o key (Bl (aH x dN).1.t (aH x key).1):=by unfold mU;rw[if_pos h,if_pos h2]
theorem LU(x:V)(hx:Fits x)(H:Hp):au Tryz.prog 89 [.agg (aC x)] H (bB H (.agg (aC (Ip x)))):=by
 by_cases hk:x.k=5
 ·have LK:Ip x=yI x 10:=by unfold Ip;rw[if_pos hk]
  have hg:∀key H,au Tryz.prog 27 [.agg (aC x),.v (.string key)] H (bB H (.kX [.agg (aC (aH x key).1),.v (.bool (aH x key).2)])):=λkey H=>I4 x hx key H
  have hgf:∀key,Fits (aH x key).1:=λkey=>mR hx key
  have hstep:∀j,yI x (j+1)=mU x (yI x j) (dH.getD j ⟨#[]⟩):=λj=>rfl
  have hev:=λj hj=>Sb hx j hj
  have hu0:yI x 0=.mk 5 0 ⟨#[]⟩ [] []:=rfl
  have hcont:∀y,Fits y->∀H,au Tryz.prog 126 [.v (.string (aH x dN).1.t),.agg (aC y)] H (bB H (.agg (aC (Bl (aH x dN).1.t y)))):=λy hy H=>LQ _ y hy H
  have hkd:=hg dN
  rw[LK]
  clear LK
  generalize yI x=ru at*
  have hc:=λj=> @Ud x (ru j) (dH.getD j ⟨#[]⟩)
  generalize hkd':(aH x dN).1=kd at*
  generalize (aH x dN).2=kb at*
  obtain⟨kk,kn,kt,kks,kvs⟩:=kd
  have hkt:(V.mk kk kn kt kks kvs).t=kt:=rfl
  rw[hkt] at hcont hc
  have hkx:aC x=aC x:=rfl
  obtain⟨k,n,t,ks,vs⟩:=x
  have hk':k=5:=hk
  subst hk'
  refine aF (n:=62) (H0:=H) (I:=[]) Tryz.func89 (by kernel_rfl) U (by rw[Tryz.ntmps89];rfl) .nil<|?_
  refine Q.rg<|S.dd<|D.box U U U λp1=>S.dd<|D.al z26 U U U λp2=>Q.nt<|S.sq<|Q.rg<|Q.fa bT U<|Q.lc 1 fB U U U<|Q.bi U U U<|Q.nt<|S.cF U (mJ (by omega))<|UW.skip<|UQ.then<|Q.rg<|S.qu (Z.eq (u':=strs dH) (Z.bl dQ U U (bz U)) U)<|Q.as U<|Q.nt<|Q.rg<|S.qu (Z.bW 1 av U U U)<|S.qu (Z.call U U (λH=>hkd H))<|Q.mv U<|S.qu (Z.ex U U)<|S.qu (Z.ex U U)<|S.dd<|D.al z26 U U U λp4=>S.s<|D.st 0 av U U U U U U U U λ_=>Q.as U<|Q.nt<|Q.rg<|S.qu (Z.bd [0] gU U U U U U U)<|S.dd<|D.al z26 U U U λp6=>S.s<|D.st 0 av U U U U U U U U λ_=>Q.nt<|S.sq<|Q.rg<|Q.as U<|Q.nt<|UW.block<|S.loop (λj:Nat×V=>[(7,.v (.int .i64 (j.1:Int))),(6,.ptr p6 0),(4,.ptr p4 0),(3,strs dH),(2,.ptr p2 0),(1,.ptr p1 0)]) (λj=>[(p6,.box 26 (aC j.2)),(p4,.box 26 (aC (.mk kk kn kt kks kvs))),(p2,.box 26 (aC zeroV)),(p1,.box 26 (aC (.mk 5 n t ks vs)))]) (λj=>j.1<=10/\j.2=ru j.1) (λj=>10-j.1) (0,.mk 5 0 ⟨#[]⟩ [] []) ⟨Nat.zero_le _,hu0.symm⟩ ⟨rfl,rfl,rfl,rfl,rfl,rfl,trivial⟩ (.refl _)<|?_
  rintro⟨j,o⟩ ⟨hj,ho⟩
  dsimp only at hj ho⊢
  have hfll:(dH.map encS).length=10:=rfl
  by_cases hlt:j<10
  ·have hst:=hstep j
   have hcj:=hc j
   have hevj:=hev j hj
   have hkz:=NV j hlt
   have hfl:(dH.map encS)[j]? =some (encS (dH.getD j ⟨#[]⟩)):=by rw[List.getElem?_map,List.getElem?_eq_getElem (show j<dH.length from hlt),getD_at (show j<dH.length from hlt)];rfl
   rw[<-ho] at hst hcj hevj
   have hfo:=hevj.fits (by omega)
   have hks:=hevj.keys
   generalize dH.getD j ⟨#[]⟩=key at*
   have Ij:=hg key
   have hgf':=hgf key
   have hs1:= @aag (.mk 5 n t ks vs) o key
   have hs2:= @QN (.mk 5 n t ks vs) o key
   clear hstep hc hg hgf hev
   generalize mU (.mk 5 n t ks vs) o key=st at*
   generalize (aH (.mk 5 n t ks vs) key).1=g at*
   generalize (aH (.mk 5 n t ks vs) key).2=is at*
   have hw:∀y H,au Tryz.prog 18 [.agg (aC o),.v (.string key),.agg (aC y)] H (bB H (.agg (aC (aQ o key y)))):=λy H=>jb o hfo hks key y H
   have hcg:=hcont g hgf'
   generalize hcvg:Bl kt g=cg at*
   obtain⟨gk,gn,gt,gks,gvs⟩:=g
   cases is with
   |false=>
    have hs:=hs1 U
    clear hs1 hs2 hcj
    refine S.sq<|Q.rg<|Q.mv U<|Q.mv U<|S.qu (Z.fM aZ U)<|Q.bi U U U<|Q.nt<|S.cT U (decide_eq_true (by omega))<|UW.skip<|UQ.then<|S.sq<|UW.block<|S.sq<|?_
    refine' UW.rO (by kernel_rfl) [3,0,1,2] [0,0,0,6,14,31,63,127,127,0,767,2047] [some 28,some 29,some 30,some 31,some 32,some 33,some 27,some 34,some 35,none,none,none] [some (28,_),some (29,_),some (30,_),some (31,_),some (32,_),some (33,_),some (27,_),some (34,_),some (35,_),none,none,none] [9,10,11] [] U (by decide) (by decide) (M.kept (by decide) U U ?F7 (M.free (by decide) U U ?F8 (M.free (by decide) U U ?F9 (M.free (by decide) U U ?Ga (M.kept (by decide) U U ?Gb (M.free (by decide) U U ?Gc (M.free (by decide) U U ?Gd (M.free (by decide) U U ?Gf (M.free (by decide) U U ?Gg (M.skip (M.skip (M.skip M.nil)))))))))))) ?VK
    case F7=>(intro _ hK;exact Z.kw 0 hK av rfl rfl rfl)
    case F8=>(intro _;exact Z.mv rfl)
    case F9=>(intro _;exact Z.mv rfl)
    case Ga=>(intro _;exact Z.ia aZ rfl rfl (by omega) hfl (by rfl))
    case Gb=>(intro _ hK;exact Z.fO dW rfl)
    case Gc=>(intro _;exact Z.call rfl rfl (λH=>Ij H))
    case Gd=>(intro _;exact Z.mv rfl)
    case Gf=>(intro _;exact Z.ex rfl rfl)
    case Gg=>(intro _;exact Z.ex rfl rfl)
    refine CH.cons U U (by decide) ?_ (.c 3 U (.c 0 U (.c 1 U (.c 2 U .n))))
    refine D.al z26 U U U λp8=>?_
    refine CH.bX U U ?_ (.c 4 U (.c 1 U (.c 2 U (.c 3 U .n))))
    refine D.st 0 av U U U U U U U U λ_=>?_
    refine CH.cons U U (by decide) ?_ (.c 4 U (.c 1 U (.c 2 U (.c 3 U .n))))
    refine D.qu (Z.as U)<|?_
    refine CH.nil ?_ (.c 4 U (.c 1 U (.c 2 U (.c 3 U .n))))
    simp only[app,bS]
    refine UQ.then<|S.sq<|Q.rg<|Q.mv U<|Q.mv U<|Q.of<|Q.of<|Q.of<|Q.of<|Q.of<|Q.pk U U<|Q.mv U<|Q.of<|Q.of<|Q.of<|Q.pk U U<|Q.nt<|S.cF U U<|UW.skip<|UQ.then<|Q.rg<|Q.mv U<|Q.nt<|S.cF U U<|UW.skip<|UQ.aB<|UQ.then<|S.rg<|Q.mv U<|S.qu (Z.add (r:=((j+1:Nat):Int)) U U (IntWalk.i64_in _ (by omega)))<|Q.as U<|US.nil<|?_
    refine S.back (j+1,o) ⟨rfl,rfl,rfl,rfl,rfl,rfl,trivial⟩ (by repeat (first|exact List.Sublist.refl _|exact List.nil_sublist _|refine .cons_cons _ ?_|refine .cons _ ?_)) ?_ (by omega)
    exact⟨hlt,by show o=ru (j+1);rw[hst,hs]⟩
   |true=>
    by_cases hkc:key.toList=aO.toList
    ·by_cases hgk5:gk=5
     ·have hs:=hcj U ⟨gI hkc,hgk5⟩
      clear hs1 hs2 hcj
      focus
       refine S.sq<|Q.rg<|Q.mv U<|Q.mv U<|S.qu (Z.fM aZ U)<|Q.bi U U U<|Q.nt<|S.cT U (decide_eq_true (by omega))<|UW.skip<|UQ.then<|S.sq<|UW.block<|S.sq<|?_
       refine' UW.rO (by kernel_rfl) [3,0,1,2] [0,0,0,6,14,31,63,127,127,0,767,2047] [some 28,some 29,some 30,some 31,some 32,some 33,some 27,some 34,some 35,none,none,none] [some (28,_),some (29,_),some (30,_),some (31,_),some (32,_),some (33,_),some (27,_),some (34,_),some (35,_),none,none,none] [9,10,11] [] U (by decide) (by decide) (M.kept (by decide) U U ?zw (M.free (by decide) U U ?uI (M.free (by decide) U U ?uJ (M.free (by decide) U U ?zx (M.kept (by decide) U U ?zy (M.free (by decide) U U ?zz (M.free (by decide) U U ?zA (M.free (by decide) U U ?zB (M.free (by decide) U U ?zC (M.skip (M.skip (M.skip M.nil)))))))))))) ?J8
       case zw=>(intro _ hK;exact Z.kw 0 hK av rfl rfl rfl)
       case uI=>(intro _;exact Z.mv rfl)
       case uJ=>(intro _;exact Z.mv rfl)
       case zx=>(intro _;exact Z.ia aZ rfl rfl (by omega) hfl (by rfl))
       case zy=>(intro _ hK;exact Z.fO dW rfl)
       case zz=>(intro _;exact Z.call rfl rfl (λH=>Ij H))
       case zA=>(intro _;exact Z.mv rfl)
       case zB=>(intro _;exact Z.ex rfl rfl)
       case zC=>(intro _;exact Z.ex rfl rfl)
       refine CH.cons U U (by decide) ?_ (.c 3 U (.c 0 U (.c 1 U (.c 2 U .n))))
       refine D.al z26 U U U λp8=>?_
       refine CH.bX U U ?_ (.c 4 U (.c 1 U (.c 2 U (.c 3 U .n))))
       refine D.st 0 av U U U U U U U U λ_=>?_
       refine CH.cons U U (by decide) ?_ (.c 4 U (.c 1 U (.c 2 U (.c 3 U .n))))
       refine D.qu (Z.as U)<|?_
       refine CH.nil ?_ (.c 4 U (.c 1 U (.c 2 U (.c 3 U .n))))
       simp only[app,bS]
       refine UQ.then<|S.sq<|Q.rg<|Q.mv U<|Q.mv U<|Q.on (Z.mv U)<|Q.on (Z.mv U)<|Q.on (Z.ia aZ U U (by omega) hfl (by rfl))<|?_
       refine Q.on (Z.fO dW U)<|Q.on (Z.bs U U U)<|Q.pk U U<|Q.mv U<|?_
       refine S.tE 44 (λhc44=>?_) (λhc44=>?_)
       rotate_left
       contradiction
       refine Q.on (Z.fa bT U)<|Q.on (Z.dM 0 fB U U U)<|Q.on (Z.bi U U U)<|Q.pk U U<|Q.nt<|S.cT U (jP (by omega))<|S.rg<|Q.fa kY U<|Q.lc 2 dW U U U<|S.qu (Z.bW 0 av U U U)<|S.qu (Z.call U U (λH=>hcg H))<|S.s<|D.vW 0 av U U U U (by exact az _) (Y _) U U λ_=>?_
       refine Q.nt<|Q.rg<|Q.mv U<|Q.nt<|S.cT U U<|?_
       refine' UW.bG (by kernel_rfl) [0,0,0,6,14,0,63,127] [some 54,some 55,some 56,some 57,some 58,some 59,some 60,none] [some (54,_),some (55,_),some (56,_),some (57,_),some (58,_),some (59,_),some (60,_),none] [7] [0,4,5] U (by decide) (by decide) (M.held (by decide) U U ?q6x1_0 (M.free (by decide) U U ?q6x1_1 (M.free (by decide) U U ?q6x1_2 (M.free (by decide) U U ?q6x1_3 (M.held (by decide) U U ?q6x1_4 (M.held (by decide) U U ?q6x1_5 (M.free (by decide) U U ?q6x1_6 (M.skip M.nil)))))))) ?q6x1_k
       case q6x1_0=>exact Z.bW 1 av rfl rfl (Y _)
       case q6x1_1=>(intro _;exact Z.mv rfl)
       case q6x1_2=>(intro _;exact Z.mv rfl)
       case q6x1_3=>(intro _;exact Z.ia aZ rfl rfl (by omega) hfl (by rfl))
       case q6x1_4=>exact Z.fO dW rfl
       case q6x1_5=>exact Z.bW 0 av rfl rfl (Y _)
       case q6x1_6=>(intro _;exact Z.call rfl rfl (λH=>hw cg H))
       refine CH.bX U U<|D.vW 1 av U U U U (by exact az _) (Y _) (Y _) U λ_=>?_
       refine CH.nil<|?_
       simp only[app,bS]
       refine UQ.aB<|UQ.then<|S.rg<|Q.mv U<|S.qu (Z.add (r:=((j+1:Nat):Int)) U U (IntWalk.i64_in _ (by omega)))<|Q.as U<|US.nil<|?_
       refine S.back (j+1,aQ o key cg) ⟨rfl,rfl,rfl,rfl,rfl,rfl,trivial⟩ (by repeat (first|exact List.Sublist.refl _|exact List.nil_sublist _|refine .cons_cons _ ?_|refine .cons _ ?_)) ?_ (by omega)
      exact⟨hlt,by show aQ o key cg=ru (j+1);rw[hst,hs]⟩
     ·have hs:=hs2 U (λh=>hgk5 h.2)
      clear hs1 hs2 hcj
      focus
       refine S.sq<|Q.rg<|Q.mv U<|Q.mv U<|S.qu (Z.fM aZ U)<|Q.bi U U U<|Q.nt<|S.cT U (decide_eq_true (by omega))<|UW.skip<|UQ.then<|S.sq<|UW.block<|S.sq<|?_
       refine' UW.rO (by kernel_rfl) [3,0,1,2] [0,0,0,6,14,31,63,127,127,0,767,2047] [some 28,some 29,some 30,some 31,some 32,some 33,some 27,some 34,some 35,none,none,none] [some (28,_),some (29,_),some (30,_),some (31,_),some (32,_),some (33,_),some (27,_),some (34,_),some (35,_),none,none,none] [9,10,11] [] U (by decide) (by decide) (M.kept (by decide) U U ?Gj (M.free (by decide) U U ?Gl (M.free (by decide) U U ?Gm (M.free (by decide) U U ?Gn (M.kept (by decide) U U ?Gp (M.free (by decide) U U ?Gq (M.free (by decide) U U ?Gr (M.free (by decide) U U ?Gs (M.free (by decide) U U ?Gt (M.skip (M.skip (M.skip M.nil)))))))))))) ?VL
       case Gj=>(intro _ hK;exact Z.kw 0 hK av rfl rfl rfl)
       case Gl=>(intro _;exact Z.mv rfl)
       case Gm=>(intro _;exact Z.mv rfl)
       case Gn=>(intro _;exact Z.ia aZ rfl rfl (by omega) hfl (by rfl))
       case Gp=>(intro _ hK;exact Z.fO dW rfl)
       case Gq=>(intro _;exact Z.call rfl rfl (λH=>Ij H))
       case Gr=>(intro _;exact Z.mv rfl)
       case Gs=>(intro _;exact Z.ex rfl rfl)
       case Gt=>(intro _;exact Z.ex rfl rfl)
       refine CH.cons U U (by decide) ?_ (.c 3 U (.c 0 U (.c 1 U (.c 2 U .n))))
       refine D.al z26 U U U λp8=>?_
       refine CH.bX U U ?_ (.c 4 U (.c 1 U (.c 2 U (.c 3 U .n))))
       refine D.st 0 av U U U U U U U U λ_=>?_
       refine CH.cons U U (by decide) ?_ (.c 4 U (.c 1 U (.c 2 U (.c 3 U .n))))
       refine D.qu (Z.as U)<|?_
       refine CH.nil ?_ (.c 4 U (.c 1 U (.c 2 U (.c 3 U .n))))
       simp only[app,bS]
       refine UQ.then<|S.sq<|Q.rg<|Q.mv U<|Q.mv U<|Q.on (Z.mv U)<|Q.on (Z.mv U)<|Q.on (Z.ia aZ U U (by omega) hfl (by rfl))<|?_
       refine Q.on (Z.fO dW U)<|Q.on (Z.bs U U U)<|Q.pk U U<|Q.mv U<|?_
       refine S.tE 44 (λhc44=>?_) (λhc44=>?_)
       rotate_left
       contradiction
       refine Q.on (Z.fa bT U)<|Q.on (Z.dM 0 fB U U U)<|Q.on (Z.bi U U U)<|Q.pk U U<|Q.nt<|S.cF U (gG (by omega))<|UW.skip<|UQ.then<|Q.rg<|Q.mv U<|Q.nt<|S.cT U U<|?_
       refine' UW.bG (by kernel_rfl) [0,0,0,6,14,0,63,127] [some 54,some 55,some 56,some 57,some 58,some 59,some 60,none] [some (54,_),some (55,_),some (56,_),some (57,_),some (58,_),some (59,_),some (60,_),none] [7] [0,4,5] U (by decide) (by decide) (M.held (by decide) U U ?Qd (M.free (by decide) U U ?Qe (M.free (by decide) U U ?Qf (M.free (by decide) U U ?Qg (M.held (by decide) U U ?Qh (M.held (by decide) U U ?Qi (M.free (by decide) U U ?Qj (M.skip M.nil)))))))) ?q7x1_k
       case Qd=>exact Z.bW 1 av rfl rfl (Y _)
       case Qe=>(intro _;exact Z.mv rfl)
       case Qf=>(intro _;exact Z.mv rfl)
       case Qg=>(intro _;exact Z.ia aZ rfl rfl (by omega) hfl (by rfl))
       case Qh=>exact Z.fO dW rfl
       case Qi=>exact Z.bW 0 av rfl rfl rfl
       case Qj=>(intro _;exact Z.call rfl rfl (λH=>hw (.mk gk gn gt gks gvs) H))
       refine CH.bX U U<|D.vW 1 av U U U U (by exact az _) (Y _) (Y _) U λ_=>?_
       refine CH.nil<|?_
       simp only[app,bS]
       refine UQ.aB<|UQ.then<|S.rg<|Q.mv U<|S.qu (Z.add (r:=((j+1:Nat):Int)) U U (IntWalk.i64_in _ (by omega)))<|Q.as U<|US.nil<|?_
       refine S.back (j+1,aQ o key (.mk gk gn gt gks gvs)) ⟨rfl,rfl,rfl,rfl,rfl,rfl,trivial⟩ (by repeat (first|exact List.Sublist.refl _|exact List.nil_sublist _|refine .cons_cons _ ?_|refine .cons _ ?_)) ?_ (by omega)
      exact⟨hlt,by show aQ o key _=ru (j+1);rw[hst,hs]⟩
    ·have hs:=hs2 U (λh=>hkc (by rw[h.1]))
     clear hs1 hs2 hcj
     refine S.sq<|Q.rg<|Q.mv U<|Q.mv U<|S.qu (Z.fM aZ U)<|Q.bi U U U<|Q.nt<|S.cT U (decide_eq_true (by omega))<|UW.skip<|UQ.then<|S.sq<|UW.block<|S.sq<|?_
     refine' UW.rO (by kernel_rfl) [3,0,1,2] [0,0,0,6,14,31,63,127,127,0,767,2047] [some 28,some 29,some 30,some 31,some 32,some 33,some 27,some 34,some 35,none,none,none] [some (28,_),some (29,_),some (30,_),some (31,_),some (32,_),some (33,_),some (27,_),some (34,_),some (35,_),none,none,none] [9,10,11] [] U (by decide) (by decide) (M.kept (by decide) U U ?q8x0_0 (M.free (by decide) U U ?q8x0_1 (M.free (by decide) U U ?q8x0_2 (M.free (by decide) U U ?q8x0_3 (M.kept (by decide) U U ?q8x0_4 (M.free (by decide) U U ?q8x0_5 (M.free (by decide) U U ?q8x0_6 (M.free (by decide) U U ?q8x0_7 (M.free (by decide) U U ?q8x0_8 (M.skip (M.skip (M.skip M.nil)))))))))))) ?q8x0_k
     case q8x0_0=>(intro _ hK;exact Z.kw 0 hK av rfl rfl rfl)
     case q8x0_1=>(intro _;exact Z.mv rfl)
     case q8x0_2=>(intro _;exact Z.mv rfl)
     case q8x0_3=>(intro _;exact Z.ia aZ rfl rfl (by omega) hfl (by rfl))
     case q8x0_4=>(intro _ hK;exact Z.fO dW rfl)
     case q8x0_5=>(intro _;exact Z.call rfl rfl (λH=>Ij H))
     case q8x0_6=>(intro _;exact Z.mv rfl)
     case q8x0_7=>(intro _;exact Z.ex rfl rfl)
     case q8x0_8=>(intro _;exact Z.ex rfl rfl)
     refine CH.cons U U (by decide) ?_ (.c 3 U (.c 0 U (.c 1 U (.c 2 U .n))))
     refine D.al z26 U U U λp8=>?_
     refine CH.bX U U ?_ (.c 4 U (.c 1 U (.c 2 U (.c 3 U .n))))
     refine D.st 0 av U U U U U U U U λ_=>?_
     refine CH.cons U U (by decide) ?_ (.c 4 U (.c 1 U (.c 2 U (.c 3 U .n))))
     refine D.qu (Z.as U)<|?_
     refine CH.nil ?_ (.c 4 U (.c 1 U (.c 2 U (.c 3 U .n))))
     simp only[app,bS]
     refine UQ.then<|S.sq<|Q.rg<|Q.mv U<|Q.mv U<|Q.on (Z.mv U)<|Q.on (Z.mv U)<|Q.on (Z.ia aZ U U (by omega) hfl (by rfl))<|?_
     refine Q.on (Z.fO dW U)<|Q.on (Z.bs U U U)<|Q.pk U U<|Q.mv U<|S.tF 44 (gG (by assumption))<|?_
     refine Q.of<|Q.of<|Q.of<|Q.pk U U<|Q.nt<|S.cF U U<|UW.skip<|UQ.then<|Q.rg<|Q.mv U<|Q.nt<|S.cT U U<|?_
     refine' UW.bG (by kernel_rfl) [0,0,0,6,14,0,63,127] [some 54,some 55,some 56,some 57,some 58,some 59,some 60,none] [some (54,_),some (55,_),some (56,_),some (57,_),some (58,_),some (59,_),some (60,_),none] [7] [0,4,5] U (by decide) (by decide) (M.held (by decide) U U ?q8x1_0 (M.free (by decide) U U ?q8x1_1 (M.free (by decide) U U ?q8x1_2 (M.free (by decide) U U ?q8x1_3 (M.held (by decide) U U ?q8x1_4 (M.held (by decide) U U ?q8x1_5 (M.free (by decide) U U ?q8x1_6 (M.skip M.nil)))))))) ?q8x1_k
     case q8x1_0=>exact Z.bW 1 av rfl rfl (Y _)
     case q8x1_1=>(intro _;exact Z.mv rfl)
     case q8x1_2=>(intro _;exact Z.mv rfl)
     case q8x1_3=>(intro _;exact Z.ia aZ rfl rfl (by omega) hfl (by rfl))
     case q8x1_4=>exact Z.fO dW rfl
     case q8x1_5=>exact Z.bW 0 av rfl rfl rfl
     case q8x1_6=>(intro _;exact Z.call rfl rfl (λH=>hw (.mk gk gn gt gks gvs) H))
     refine CH.bX U U<|D.vW 1 av U U U U (by exact az _) (Y _) (Y _) U λ_=>?_
     refine CH.nil<|?_
     simp only[app,bS]
     refine UQ.aB<|UQ.then<|S.rg<|Q.mv U<|S.qu (Z.add (r:=((j+1:Nat):Int)) U U (IntWalk.i64_in _ (by omega)))<|Q.as U<|US.nil<|?_
     refine S.back (j+1,aQ o key (.mk gk gn gt gks gvs)) ⟨rfl,rfl,rfl,rfl,rfl,rfl,trivial⟩ (by repeat (first|exact List.Sublist.refl _|exact List.nil_sublist _|refine .cons_cons _ ?_|refine .cons _ ?_)) ?_ (by omega)
     exact⟨hlt,by show aQ o key _=ru (j+1);rw[hst,hs]⟩
  ·have hj10:j=10:=by omega
   subst hj10
   rw[<-ho]
   refine S.sq<|Q.rg<|Q.mv U<|Q.mv U<|S.qu (Z.fM aZ U)<|Q.bi U U U<|Q.nt<|S.cF U (decide_eq_false (by omega))<|UW.exit<|UQ.pass<|UQ.pass<|UQ.here<|UQ.then<|Q.rg<|S.qu (Z.bW 0 av U U (Y _))<|S.s<|D.vW 2 av U U U U (by exact az _) (Y _) U U λ_=>?_
   refine Q.nt<|UW.ret<|S.bH (λhd=>aX (k:=2) hd U U U gQ (by rw[Y];exact gT))<|?_
   rfl
 ·have LK:Ip x=zeroV:=by unfold Ip;rw[if_neg hk]
  rw[LK]
  obtain⟨k,n,t,ks,vs⟩:=x
  have hk':¬k=5:=hk
  refine aF (n:=62) (H0:=H) (I:=[]) Tryz.func89 (by kernel_rfl) U (by rw[Tryz.ntmps89];rfl) .nil<|?_
  refine Q.rg<|S.dd<|D.box U U U λp1=>S.dd<|D.al z26 U U U λp2=>Q.nt<|S.sq<|Q.rg<|Q.fa bT U<|Q.lc 1 fB U U U<|Q.bi U U U<|Q.nt<|S.cT U (rP (by omega))<|Q.rg<|S.qu (Z.bd [] gU U U U U U U)<|S.s<|D.st 0 av U U U U U U U U λ_=>Q.nt<|UW.ret<|UQ.ax<|S.bH (λhd=>aX (k:=0) hd U U U gQ gT)<|?_
  rfl
theorem zW{a b:ByteArray}(h:a.data.toList=b.data.toList):a=b:=ByteArray.ext (Array.ext' h)
theorem xq(a b:ByteArray):(a++b).data.toList=a.data.toList++b.data.toList:=by rw[ByteArray.data_append,Array.toList_append]
theorem Bo(c:Int):(aN c).data.toList=[UInt8.ofNat c.toNat]:=rfl
theorem CQ(n:Int):(uL n).data.toList=Lib.itoa n:=rfl
theorem NW{u:Nat}(h:¬u<10):Lib.decDigits u=Lib.decDigits (u/10)++[UInt8.ofNat (48+u % 10)]:=by rw[Lib.decDigits,dif_neg h]
theorem dec_ns{n:Int}(h:n<0)(h1: -10<n):aN 45++aN (48+ -n)=uL n:=by
 refine zW ?_
 rw[xq,Bo,Bo,CQ]
 unfold Lib.itoa
 rw[if_pos h,Lib.decDigits_one (by omega),show(48+ -n).toNat=48+n.natAbs from by omega];rfl
theorem dec_nb{n:Int}(h:n<= -10):uL (n.tdiv 10)++aN (48+ -(n.tmod 10))=uL n:=by
 have h1:n.tdiv 10= -((n.natAbs/10:Nat):Int):=by
  rw[show n= -((n.natAbs:Nat):Int) from by omega,Int.neg_tdiv]
  congr 1
  rw[Int.natAbs_neg,Int.natAbs_natCast];rfl
 have h2:n.tmod 10= -((n.natAbs % 10:Nat):Int):=by
  rw[show n= -((n.natAbs:Nat):Int) from by omega,Int.neg_tmod]
  congr 1
  rw[Int.natAbs_neg,Int.natAbs_natCast];rfl
 refine zW ?_
 rw[xq,Bo,CQ,CQ,h1,h2]
 unfold Lib.itoa
 rw[if_pos (by omega),if_pos (by omega),Int.natAbs_neg,Int.natAbs_natCast,NW (u:=n.natAbs) (by omega),show(48+ -(-((n.natAbs % 10:Nat):Int))).toNat=48+n.natAbs % 10 from by omega];rfl
theorem dec_ps{n:Int}(h:0<=n)(h1:n<10):aN (48+n)=uL n:=by
 refine zW ?_
 rw[Bo,CQ]
 unfold Lib.itoa
 rw[if_neg (by omega),Lib.decDigits_one (by omega),show(48+n).toNat=48+n.toNat from by omega]
theorem dec_pb{n:Int}(h:10<=n):uL (n.tdiv 10)++aN (48+n.tmod 10)=uL n:=by
 have h1:n.tdiv 10=n/10:=Int.tdiv_eq_ediv_of_nonneg (by omega)
 have h2:n.tmod 10=n % 10:=Int.tmod_eq_emod_of_nonneg (by omega)
 refine zW ?_
 rw[xq,Bo,CQ,CQ,h1,h2]
 unfold Lib.itoa
 rw[if_neg (by omega),if_neg (by omega),NW (u:=n.toNat) (by omega),show(48+n % 10).toNat=48+n.toNat % 10 from by omega,show(n/10).toNat=n.toNat/10 from by omega]
def tQ:List ByteArray->Nat
 |[]=>0
 |a::r=>a.size+1+tQ r
def comma:ByteArray:=⟨#[44]⟩
theorem Ep(l:List ByteArray)(sep:ByteArray):(gX l sep).data.toList=Lib.join (l.map (·.data.toList)) sep.data.toList:=rfl
theorem Iq(sep:List UInt8)(r:List (List UInt8))(y:List UInt8):Lib.joinTail sep (r++[y])=Lib.joinTail sep r++sep++y:=by unfold Lib.joinTail;simp[List.append_assoc]
theorem Jf(l:List ByteArray)(x sep:ByteArray):gX (l++[x]) sep=if l=[] then x else(gX l sep++sep)++x:=by
 cases l with
 |nil=>exact zW (by rw[Ep];exact Lib.join_one _ _)
 |cons a r=>
  rw[if_neg (by simp)]
  refine zW ?_
  rw[xq,xq,Ep,Ep,List.cons_append,List.map_cons,List.map_append,List.map_cons,List.map_nil,List.map_cons,Lib.join_cons,Lib.join_cons,Iq]
  simp only[List.append_assoc]
theorem yO:∀r:List ByteArray,(Lib.joinTail comma.data.toList (r.map (·.data.toList))).length=tQ r
 |[]=>rfl
 |a::r=>by
  have:=yO r
  unfold Lib.joinTail at this⊢
  simp only[List.map_cons,List.flatten_cons,List.length_append,this]
  show 1+_+_=a.size+1+tQ r
  have:a.data.toList.length=a.size:=oq a
  omega
theorem ve(l:List ByteArray):(gX l comma).size<=tQ l:=by
 have h:=oq (gX l comma)
 rw[<-h,Ep]
 cases l with
 |nil=>exact Nat.zero_le _
 |cons a r=>
  rw[List.map_cons,Lib.join_cons,List.length_append,yO]
  have:a.data.toList.length=a.size:=oq a
  show _<=a.size+1+tQ r
  omega
theorem Jg:∀(l:List ByteArray) (k:Nat),tQ (l.take k)<=tQ l
 |[],k=>by simp[tQ]
 |a::r,0=>Nat.zero_le _
 |a::r,k+1=>by have:=Jg r k;show a.size+1+tQ (r.take k)<=a.size+1+tQ r;omega
theorem LV:∀(l:List ByteArray) (k:Nat) (h:k<l.length),l[k].size<=tQ l
 |a::r,0,_=>by show a.size<=a.size+1+tQ r;omega
 |a::r,k+1,h=>by have:=LV r k (by simpa using h);show(r[k]'(by simpa using h)).size<=a.size+1+tQ r;omega
def fP(b:Bool):List ByteArray->List ByteArray->List ByteArray
 |_,[]=>[]
 |[],p::ps=>p::fP b [] ps
 |key::ks,p::ps=>(if b=true then(kG key++aN 58)++p else p)::fP b ks ps
theorem yw(b:Bool):∀ks ps:List ByteArray,(fP b ks ps).length=ps.length
 |[],[]=>rfl
 |_::_,[]=>rfl
 |[],p::ps=>by show _+1=_+1;rw[yw b [] ps]
 |_::ks,p::ps=>by show _+1=_+1;rw[yw b ks ps]
theorem CR(b:Bool):∀ps:List ByteArray,fP b [] ps=ps
 |[]=>rfl
 |p::ps=>by show p::_=_;rw[CR b ps]
theorem GV(b:Bool):∀(ks ps:List ByteArray) (i:Nat),i<ps.length->(fP b ks ps).getD i ⟨#[]⟩=if b=true/\i<ks.length then(kG (ks.getD i ⟨#[]⟩)++aN 58)++ps.getD i ⟨#[]⟩ else ps.getD i ⟨#[]⟩
 |[],ps,i,h=>by rw[CR,if_neg (by rintro⟨_,h2⟩;simp at h2)]
 |key::ks,p::ps,0,h=>by
  show(if b=true then _ else _)=_
  by_cases hb:b=true
  ·rw[if_pos hb,if_pos ⟨hb,Nat.zero_lt_succ _⟩];rfl
  ·rw[if_neg hb,if_neg (λh=>hb h.1)];rfl
 |key::ks,p::ps,i+1,h=>by
  show(fP b ks ps).getD i ⟨#[]⟩=_
  rw[GV b ks ps i (by simpa using h)]
  show _=if b=true/\i+1<ks.length+1 then(kG (ks.getD i ⟨#[]⟩)++aN 58)++ps.getD i ⟨#[]⟩ else ps.getD i ⟨#[]⟩
  by_cases hb:b=true/\i<ks.length
  ·rw[if_pos hb,if_pos ⟨hb.1,by omega⟩]
  ·rw[if_neg hb,if_neg (λh=>hb ⟨h.1,by omega⟩)]
def vg:List ByteArray->Nat
 |[]=>0
 |a::r=>6*a.size+4+vg r
theorem yx(b:Bool):∀ks ps:List ByteArray,tQ (fP b ks ps)<=vg ks+tQ ps
 |[],ps=>by rw[CR];exact Nat.le_add_left _ _
 |_::_,[]=>Nat.zero_le _
 |key::ks,p::ps=>by
  have h1:=yx b ks ps
  have h2:=wW key
  show(if b=true then(kG key++aN 58)++p else p).size+1+tQ (fP b ks ps)<=6*key.size+4+vg ks+(p.size+1+tQ ps)
  split
  ·rw[bf,bf,aU];omega
  ·omega
def nullB:ByteArray:=⟨#[110,117,108,108]⟩
def CS(k n:Int)(t:ByteArray)(ks ps:List ByteArray):ByteArray:=
 if k=0 then nullB else if k=1 then Fy (n==1) else if k=2 then uL n else if k=3 then kG t else
 if k=5 then(aN 123++gX (fP true ks ps) comma)++aN 125 else(aN 91++gX (fP false ks ps) comma)++aN 93
mutual
def aR:V->ByteArray
 | .mk k n t ks vs=>CS k n t ks (Bp vs)
def Bp:List V->List ByteArray
 |[]=>[]
 |v::r=>aR v::Bp r
end
theorem GX:∀l:List V,Bp l=l.map aR
 |[]=>by rw[Bp];rfl
 |v::r=>by rw[Bp,GX r];rfl
theorem gL(k n:Int)(t:ByteArray)(ks:List ByteArray)(vs:List V):aR (.mk k n t ks vs)=CS k n t ks (vs.map aR):=by rw[aR,GX]
mutual
def tV:V->Nat
 | .mk _ _ t ks vs=>30+6*t.size+vg ks+eP vs
def eP:List V->Nat
 |[]=>0
 |v::r=>tV v+1+eP r
end
theorem j3(k n:Int)(t:ByteArray)(ks:List ByteArray)(vs:List V):tV (.mk k n t ks vs)=30+6*t.size+vg ks+eP vs:=by rw[tV]
theorem Bq:∀{vs:List V} {x:V},x∈vs->tV x<eP vs+1
 |v::r,x,h=>by
  rw[eP]
  rcases List.mem_cons.1 h with rfl|h
  ·omega
  ·have:=Bq h;omega
theorem QO:∀(ks:List ByteArray) (i:Nat) (h:i<ks.length),ks[i].size<=vg ks
 |a::r,0,_=>by show a.size<=6*a.size+4+vg r;omega
 |a::r,k+1,h=>by have:=QO r k (by simpa using h);show(r[k]'(by simpa using h)).size<=6*a.size+4+vg r;omega
inductive lG:V->Prop
 |mk (k n:Int) (t:ByteArray) (ks:List ByteArray) (vs:List V) (h0: -9223372036854775808<=n) (h1:n<=9223372036854775807) (h:∀x∈vs,lG x):lG (.mk k n t ks vs)
theorem LW:∀vs:List V,(∀x∈vs,(aR x).size<=tV x)->tQ (vs.map aR)<=eP vs
 |[],_=>Nat.zero_le _
 |v::r,h=>by
  have h1:=LW r (λx hx=>h x (List.mem_cons_of_mem _ hx))
  have h2:=h v (List.mem_cons_self ..)
  rw[eP]
  show(aR v).size+1+tQ (r.map aR)<=_
  omega
theorem NY(b:Bool):(Fy b).size<=5:=by cases b<;>decide
theorem xw{x:V}(hn:lG x):(aR x).size<=tV x:=by
 induction hn with
 |mk k n t ks vs h0 h1 h ih=>
  have h2:=LW vs ih
  have h3:=yx true ks (vs.map aR)
  have h4:=yx false ks (vs.map aR)
  have h5:=ve (fP true ks (vs.map aR))
  have h6:=ve (fP false ks (vs.map aR))
  have h7:=wW t
  have h8:=IW n h0 h1
  have h9:=NY (n==1)
  have h10:nullB.size=4:=rfl
  rw[gL,j3]
  unfold CS
  (repeat' split)<;>(try simp only[bf,aU])<;>omega
structure Pr(x:V):Prop where
 fits:Fits x
 num:lG x
 wt:tV x<=1000000000
theorem Pr.kid{k n:Int}{t:ByteArray}{ks:List ByteArray}{vs:List V}(h:Pr (.mk k n t ks vs)){x:V}(hx:x∈vs):Pr x:=by
 have h1:=h.fits;have h2:=h.num;have h3:=h.wt
 rw[j3] at h3
 have h4:=Bq hx
 cases h1 with|mk _ _ _ _ _ a b c=>cases h2 with|mk _ _ _ _ _ d e f=>exact⟨c x hx,f x hx,by omega⟩
end Go.Proofs.YtonpfomjoiaacaaGreatDoor
end
