/- A part of the proof. -/
import Derived.Test.YtonpfomjoiaacaaGreatDoorMz36
import Derived.Test.YtonpfomjoiaacaaGreatDoorMz25
import Derived.Test.YtonpfomjoiaacaaGreatDoorMz23
set_option maxRecDepth 100000
set_option maxHeartbeats 4000000
set_option linter.unusedSectionVars false
set_option linter.unusedVariables false
set_option linter.unusedSimpArgs false
section
namespace Go.Proofs.YtonpfomjoiaacaaGreatDoor
open Go Go.fT Go.RowKit
theorem Yv{x:V}(hx:Fits x)(key:ByteArray):Fits (bC x key):=by
 unfold bC
 split
 ·rename_i i hp
  cases hx with
  |mk k n t ks vs h1 h2 h3=>
   refine .mk _ _ _ _ _ ?_ ?_ (λy hy=>?_)
   ·unfold cutAt cutV;simp[yC,yD];omega
   ·unfold cutAt cutV;simp[yC,yD];omega
   ·unfold cutAt cutV at hy
    rcases List.mem_append.1 hy with h|h
    ·exact h3 _ (List.mem_of_mem_take (List.mem_of_mem_take h))
    ·exact h3 _ (List.mem_of_mem_take (List.mem_of_mem_drop h))
 ·exact hx
def pI(kind:ByteArray)(x:V):Nat->V
 |0=>x
 |j+1=>if fO kind (x.ks.getD j ⟨#[]⟩)=true then pI kind x j else bC (pI kind x j) (x.ks.getD j ⟨#[]⟩)
def zC(kind:ByteArray)(x:V):V:=pI kind x x.ks.length
theorem tu(kind:ByteArray){x:V}(hx:Fits x):∀j,Fits (pI kind x j)
 |0=>hx
 |j+1=>by
  unfold pI
  split
  ·exact tu kind hx j
  ·exact Yv (tu kind hx j) _
theorem J4(kind:ByteArray)(x:V)(hx:Fits x)(H:Hp):au Tryz.prog 126 [.v (.string kind),.agg (aD x)] H (bz H (.agg (aD (zC kind x)))):=by
 have hcu:=tu kind hx
 have hcv:zC kind x=pI kind x x.ks.length:=rfl
 have hc0:pI kind x 0=x:=rfl
 have hcs:∀j,pI kind x (j+1)=if fO kind (x.ks.getD j ⟨#[]⟩)=true then pI kind x j else bC (pI kind x j) (x.ks.getD j ⟨#[]⟩):=λj=>rfl
 rw[hcv]
 clear hcv
 generalize pI kind x=cu at*
 obtain⟨k,n,t,ks,vs⟩:=x
 have hkl:(ks.map encS).length=ks.length:=List.length_map ..
 have hb:ks.length<=1000000:=by cases hx with|mk _ _ _ _ _ a b c=>exact a
 simp only[V.ks] at hcs⊢
 refine aF (n:=31) (H0:=H) (I:=[]) Tryz.func126 (by kernel_rfl) U (by rw[Tryz.ntmps126];rfl) .nil<|?_
 refine Q.rg<|S.dd<|D.box U U U λp3=>S.dd<|D.al z26 U U U λp4=>Q.nt<|Q.rg<|S.qu (Z.dA 1 av U U U)<|S.dd<|D.al z26 U U U λp5=>S.s<|D.st 0 av U U U U U U U U λ_=>Q.nt<|S.sq<|Q.rg<|Q.as U<|Q.nt<|UW.block<|S.loop (λj:Nat×V=>[(6,.v (.int .i64 (j.1:Int))),(5,.ptr p5 0),(4,.ptr p4 0),(3,.ptr p3 0),(0,.v (.string kind))]) (λj=>[(p5,.box 26 (aD j.2)),(p4,.box 26 (aD zeroV)),(p3,.box 26 (aD (.mk k n t ks vs)))]) (λj=>j.1<=ks.length/\j.2=cu j.1) (λj=>ks.length-j.1) (0,.mk k n t ks vs) ⟨Nat.zero_le _,hc0.symm⟩ ⟨rfl,rfl,rfl,rfl,rfl,trivial⟩ (.refl _)<|?_
 rintro⟨j,y⟩ ⟨hj,hy⟩
 dsimp only at hj hy⊢
 by_cases hlt:j<ks.length
 ·have L6:=eD ks j hlt
  have hcj:cu (j+1)=if fO kind ks[j]=true then cu j else bC (cu j) ks[j]:=by
   have h:=hcs j
   simpa only[getD_at hlt] using h
  have hkk:∀H,au Tryz.prog 174 [.v (.string kind),.v (.string ks[j])] H (bz H (.v (.bool (fO kind ks[j])))):=λH=>OW kind ks[j] H
  have hfy:Fits y:=hy▸hcu j
  rw[<-hy] at hcj
  by_cases hkt:fO kind ks[j]=true
  ·rw[if_pos hkt] at hcj
   have hnn:(!fO kind ks[j])=false:=by rw[hkt];rfl
   refine S.sq<|Q.rg<|Q.mv U<|Q.fa dw U<|Q.lc 2 dD U U U<|S.qu (Z.fG aY U)<|Q.bi U U U<|Q.nt<|S.cT U (decide_eq_true (by omega))<|UW.skip<|UQ.then<|S.sq<|UW.block<|Q.rg<|Q.mv U<|Q.fa dw U<|Q.lc 2 dD U U U<|Q.mv U<|S.qu (Z.ia aY U U (by omega) (by assumption) (by rfl))<|?_
   refine S.qu (Z.fE ed U)<|S.qu (Z.call U U (λH=>hkk H))<|S.qu (Z.not U)<|Q.nt<|S.cF U (by assumption)<|?_
   refine UW.skip<|UQ.aB<|UQ.then<|S.rg<|Q.mv U<|S.qu (Z.add (r:=((j+1:Nat):Int)) U U (IntWalk.i64_in _ (by omega)))<|Q.as U<|US.nil<|?_
   refine S.back (j+1,y) ⟨rfl,rfl,rfl,rfl,rfl,trivial⟩ (.refl _) ?_ (by omega)
   exact⟨hlt,hcj.symm⟩
  ·rw[if_neg hkt] at hcj
   have Vm:fO kind ks[j]=false:=by simpa using hkt
   have hnn:(!fO kind ks[j])=true:=by rw[Vm];rfl
   have hw:∀H,au Tryz.prog 16 [.agg (aD y),.v (.string ks[j])] H (bz H (.agg (aD (bC y ks[j])))):=λH=>qE y hfy ks[j] H
   generalize bC y ks[j]=y1 at*
   refine S.sq<|Q.rg<|Q.mv U<|Q.fa dw U<|Q.lc 2 dD U U U<|S.qu (Z.fG aY U)<|Q.bi U U U<|Q.nt<|S.cT U (decide_eq_true (by omega))<|UW.skip<|UQ.then<|S.sq<|UW.block<|Q.rg<|Q.mv U<|Q.fa dw U<|Q.lc 2 dD U U U<|Q.mv U<|S.qu (Z.ia aY U U (by omega) (by assumption) (by rfl))<|?_
   refine S.qu (Z.fE ed U)<|S.qu (Z.call U U (λH=>hkk H))<|S.qu (Z.not U)<|Q.nt<|S.cT U (by assumption)<|?_
   refine' UW.bG (by kernel_rfl) [0,0,2,0,14,30,63,127] [some 23,some 24,some 25,some 26,some 27,some 28,some 29,none] [some (23,_),some (24,_),some (25,_),some (26,_),some (27,_),some (28,_),some (29,_),none] [7] [0,2,5] U (by decide) (by decide) (M.held (by decide) U U ?je (M.free (by decide) U U ?jf (M.held (by decide) U U ?jg (M.free (by decide) U U ?jh (M.free (by decide) U U ?ji (M.held (by decide) U U ?jK (M.free (by decide) U U ?mg (M.skip M.nil)))))))) ?su
   case je=>exact Z.dA 0 av rfl rfl (Y _)
   case jf=>(intro _;exact Z.fa dw rfl)
   case jg=>exact Z.di 2 dD rfl rfl rfl
   case jh=>(intro _;exact Z.mv rfl)
   case ji=>(intro _;exact Z.ia aY rfl rfl (by omega) (by assumption) (by rfl))
   case jK=>exact Z.fE ed rfl
   case mg=>(intro _;exact Z.call rfl rfl (λH=>hw H))
   refine CH.df U U<|D.uq 0 av U U U U (aA _) (Y _) (Y _) U λ_=>CH.nil<|?_
   simp only[app,bV]
   refine UQ.aB<|UQ.then<|S.rg<|Q.mv U<|S.qu (Z.add (r:=((j+1:Nat):Int)) U U (IntWalk.i64_in _ (by omega)))<|Q.as U<|US.nil<|?_
   refine S.back (j+1,y1) ⟨rfl,rfl,rfl,rfl,rfl,trivial⟩ (.refl _) ?_ (by omega)
   exact⟨hlt,hcj.symm⟩
 ·have hjl:j=ks.length:=by omega
  subst hjl
  rw[<-hy]
  refine S.sq<|Q.rg<|Q.mv U<|Q.fa dw U<|Q.lc 2 dD U U U<|S.qu (Z.fG aY U)<|Q.bi U U U<|Q.nt<|S.cF U (decide_eq_false (by omega))<|UW.exit<|UQ.pass<|UQ.pass<|UQ.here<|UQ.then<|Q.rg<|S.qu (Z.dA 0 av U U (Y _))<|S.s<|D.uq 1 av U U U U (by exact aA _) (Y _) U U λ_=>?_
  refine Q.nt<|UW.ret<|S.bK (λhd=>aU (k:=1) hd U U U fV (by rw[Y];exact fZ))<|?_
  rfl
structure Ev(x:V)(N:Nat):Prop where
 k:x.k=5
 len:x.ks.length=x.vs.length
 GR:Asc x.ks
 le:x.ks.length<=N
 keys:∀s∈x.ks,s.size<=4000000
 vals:∀v∈x.vs,Fits v
theorem Ev.fits{x:V}{N:Nat}(h:Ev x N)(hN:N<=1000000):Fits x:=Fits.of (by have:=h.le;omega) (by have:=h.le;have:=h.len;omega) h.vals
theorem zD:Ev (.mk 5 0 ⟨#[]⟩ [] []) 0:=by
 refine⟨rfl,rfl,?_,Nat.le_refl _,?_,?_⟩
 ·intro i j hi;exact absurd hi (Nat.not_lt_zero _)
 ·intro s h;cases h
 ·intro v h;cases h
theorem Ev.with{x:V}{N:Nat}(h:Ev x N){key:ByteArray}(hk:key.size<=4000000){y:V}(hy:Fits y):Ev (bH x key y) (N+1):=by
 obtain⟨k,n,t,ks,vs⟩:=x
 have h1:k=5:=h.k
 subst h1
 have hl:ks.length=vs.length:=h.len
 have hle:ks.length<=N:=h.le
 obtain⟨ks',vs',e1,e2,e3,e4,e5⟩:=Bb (n:=n) (t:=t) hl h.GR key y
 have hw:=(sW (.mk 5 n t ks vs) key y).1
 rw[e1] at hw⊢
 have hw':ks'.length<=ks.length+1:=hw
 exact⟨rfl,e2,e3,by show ks'.length<=N+1;omega,λs hs=>(e4 s hs).elim (h.keys s) (λe=>e▸hk),λv hv=>(e5 v hv).elim (h.vals v) (λe=>e▸hy)⟩
def lL(x o:V)(key:ByteArray):V:=if (aI x key).2=true then bH o key (if key=aQ/\(aI x key).1.k=5 then zC (aI x dK).1.t (aI x key).1 else(aI x key).1) else o
def wM(x:V):Nat->V
 |0=> .mk 5 0 ⟨#[]⟩ [] []
 |j+1=>lL x (wM x j) (dC.getD j ⟨#[]⟩)
def F9(x:V):V:=if x.k=5 then wM x 10 else zeroV
theorem OY:∀s∈dC,s.size<=4000000:=by decide
theorem Mf(j:Nat)(hj:j<10):(dC.getD j ⟨#[]⟩).size<=4000000:=OY _ (eY hj)
theorem OZ(kind:ByteArray){x:V}(hx:Fits x):Fits (zC kind x):=tu kind hx _
theorem Qk{x:V}(hx:Fits x):∀j,j<=10->Ev (wM x j) j
 |0,_=>zD
 |j+1,hj=>by
  have ih:=Qk hx j (by omega)
  show Ev (lL x (wM x j) (dC.getD j ⟨#[]⟩)) (j+1)
  unfold lL
  split
  ·refine ih.with (Mf j (by omega))<|?_
   split
   ·exact OZ _ (lK hx _)
   ·exact lK hx _
  ·exact⟨ih.k,ih.len,ih.GR,by have:=ih.le;omega,ih.keys,ih.vals⟩
theorem Yw{x o:V}{key:ByteArray}(h:(aI x key).2=false):lL x o key=o:=by unfold lL;rw[if_neg (by rw[h];simp)]
theorem O0{x o:V}{key:ByteArray}(h:(aI x key).2=true)(h2:¬(key=aQ/\(aI x key).1.k=5)):lL x o key=bH o key (aI x key).1:=by unfold lL;rw[if_pos h,if_neg h2]
theorem RN{x o:V}{key:ByteArray}(h:(aI x key).2=true)(h2:key=aQ/\(aI x key).1.k=5):lL x o key=bH o key (zC (aI x dK).1.t (aI x key).1):=by unfold lL;rw[if_pos h,if_pos h2]
theorem J5(x:V)(hx:Fits x)(H:Hp):au Tryz.prog 89 [.agg (aD x)] H (bz H (.agg (aD (F9 x)))):=by
 by_cases hk:x.k=5
 ·have J2:F9 x=wM x 10:=by unfold F9;rw[if_pos hk]
  have hg:∀key H,au Tryz.prog 27 [.agg (aD x),.v (.string key)] H (bz H (.kM [.agg (aD (aI x key).1),.v (.bool (aI x key).2)])):=λkey H=>Q6 x hx key H
  have hgf:∀key,Fits (aI x key).1:=λkey=>lK hx key
  have hstep:∀j,wM x (j+1)=lL x (wM x j) (dC.getD j ⟨#[]⟩):=λj=>rfl
  have hev:=λj hj=>Qk hx j hj
  have hu0:wM x 0=.mk 5 0 ⟨#[]⟩ [] []:=rfl
  have hcont:∀y,Fits y->∀H,au Tryz.prog 126 [.v (.string (aI x dK).1.t),.agg (aD y)] H (bz H (.agg (aD (zC (aI x dK).1.t y)))):=λy hy H=>J4 _ y hy H
  have hkd:=hg dK
  rw[J2]
  clear J2
  generalize wM x=ru at*
  have hc:=λj=> @RN x (ru j) (dC.getD j ⟨#[]⟩)
  generalize hkd':(aI x dK).1=kd at*
  generalize (aI x dK).2=kb at*
  obtain⟨kk,kn,kt,kks,kvs⟩:=kd
  have hkt:(V.mk kk kn kt kks kvs).t=kt:=rfl
  rw[hkt] at hcont hc
  have hkx:aD x=aD x:=rfl
  obtain⟨k,n,t,ks,vs⟩:=x
  have hk':k=5:=hk
  subst hk'
  refine aF (n:=62) (H0:=H) (I:=[]) Tryz.func89 (by kernel_rfl) U (by rw[Tryz.ntmps89];rfl) .nil<|?_
  refine Q.rg<|S.dd<|D.box U U U λp1=>S.dd<|D.al z26 U U U λp2=>Q.nt<|S.sq<|Q.rg<|Q.fa bP U<|Q.lc 1 eQ U U U<|Q.bi U U U<|Q.nt<|S.cF U (nL (by omega))<|UW.skip<|UQ.then<|Q.rg<|S.qu (Z.eq (u':=strs dC) (Z.bl dV U U (bA U)) U)<|Q.as U<|Q.nt<|Q.rg<|S.qu (Z.dA 1 av U U U)<|S.qu (Z.call U U (λH=>hkd H))<|Q.mv U<|S.qu (Z.ex U U)<|S.qu (Z.ex U U)<|S.dd<|D.al z26 U U U λp4=>S.s<|D.st 0 av U U U U U U U U λ_=>Q.as U<|Q.nt<|Q.rg<|S.qu (Z.bd [0] iE U U U U U U)<|S.dd<|D.al z26 U U U λp6=>S.s<|D.st 0 av U U U U U U U U λ_=>Q.nt<|S.sq<|Q.rg<|Q.as U<|Q.nt<|UW.block<|S.loop (λj:Nat×V=>[(7,.v (.int .i64 (j.1:Int))),(6,.ptr p6 0),(4,.ptr p4 0),(3,strs dC),(2,.ptr p2 0),(1,.ptr p1 0)]) (λj=>[(p6,.box 26 (aD j.2)),(p4,.box 26 (aD (.mk kk kn kt kks kvs))),(p2,.box 26 (aD zeroV)),(p1,.box 26 (aD (.mk 5 n t ks vs)))]) (λj=>j.1<=10/\j.2=ru j.1) (λj=>10-j.1) (0,.mk 5 0 ⟨#[]⟩ [] []) ⟨Nat.zero_le _,hu0.symm⟩ ⟨rfl,rfl,rfl,rfl,rfl,rfl,trivial⟩ (.refl _)<|?_
  rintro⟨j,o⟩ ⟨hj,ho⟩
  dsimp only at hj ho⊢
  have hfll:(dC.map encS).length=10:=rfl
  by_cases hlt:j<10
  ·have hst:=hstep j
   have hcj:=hc j
   have abz:=hev j hj
   have hkz:=Mf j hlt
   have hfl:(dC.map encS)[j]? =some (encS (dC.getD j ⟨#[]⟩)):=by rw[List.getElem?_map,List.getElem?_eq_getElem (show j<dC.length from hlt),getD_at (show j<dC.length from hlt)];rfl
   rw[<-ho] at hst hcj abz
   have hfo:=abz.fits (by omega)
   have hks:=abz.keys
   generalize dC.getD j ⟨#[]⟩=key at*
   have L6:=hg key
   have hgf':=hgf key
   have hs1:= @Yw (.mk 5 n t ks vs) o key
   have hs2:= @O0 (.mk 5 n t ks vs) o key
   clear hstep hc hg hgf hev
   generalize lL (.mk 5 n t ks vs) o key=st at*
   generalize (aI (.mk 5 n t ks vs) key).1=g at*
   generalize (aI (.mk 5 n t ks vs) key).2=is at*
   have hw:∀y H,au Tryz.prog 18 [.agg (aD o),.v (.string key),.agg (aD y)] H (bz H (.agg (aD (bH o key y)))):=λy H=>kJ o hfo hks key y H
   have hcg:=hcont g hgf'
   generalize hcvg:zC kt g=cg at*
   obtain⟨gk,gn,gt,gks,gvs⟩:=g
   cases is with
   |false=>
    have hs:=hs1 U
    clear hs1 hs2 hcj
    refine S.sq<|Q.rg<|Q.mv U<|Q.mv U<|S.qu (Z.fG aY U)<|Q.bi U U U<|Q.nt<|S.cT U (decide_eq_true (by omega))<|UW.skip<|UQ.then<|S.sq<|UW.block<|S.sq<|?_
    refine' UW.Gl (by kernel_rfl) [3,0,1,2] [0,0,0,6,14,31,63,127,127,0,767,2047] [some 28,some 29,some 30,some 31,some 32,some 33,some 27,some 34,some 35,none,none,none] [some (28,_),some (29,_),some (30,_),some (31,_),some (32,_),some (33,_),some (27,_),some (34,_),some (35,_),none,none,none] [9,10,11] [] U (by decide) (by decide) (M.kept (by decide) U U ?Eg (M.free (by decide) U U ?Eh (M.free (by decide) U U ?Ei (M.free (by decide) U U ?Ej (M.kept (by decide) U U ?El (M.free (by decide) U U ?Em (M.free (by decide) U U ?En (M.free (by decide) U U ?Eo (M.free (by decide) U U ?Ep (M.skip (M.skip (M.skip M.nil)))))))))))) ?T9
    case Eg=>(intro _ hK;exact Z.kw 0 hK av rfl rfl rfl)
    case Eh=>(intro _;exact Z.mv rfl)
    case Ei=>(intro _;exact Z.mv rfl)
    case Ej=>(intro _;exact Z.ia aY rfl rfl (by omega) hfl (by rfl))
    case El=>(intro _ hK;exact Z.fE ed rfl)
    case Em=>(intro _;exact Z.call rfl rfl (λH=>L6 H))
    case En=>(intro _;exact Z.mv rfl)
    case Eo=>(intro _;exact Z.ex rfl rfl)
    case Ep=>(intro _;exact Z.ex rfl rfl)
    refine CH.cons U U (by decide) ?_ (.c 3 U (.c 0 U (.c 1 U (.c 2 U .n))))
    refine D.al z26 U U U λp8=>?_
    refine CH.df U U ?_ (.c 4 U (.c 1 U (.c 2 U (.c 3 U .n))))
    refine D.st 0 av U U U U U U U U λ_=>?_
    refine CH.cons U U (by decide) ?_ (.c 4 U (.c 1 U (.c 2 U (.c 3 U .n))))
    refine D.qu (Z.as U)<|?_
    refine CH.nil ?_ (.c 4 U (.c 1 U (.c 2 U (.c 3 U .n))))
    simp only[app,bV]
    refine UQ.then<|S.sq<|Q.rg<|Q.mv U<|Q.mv U<|Q.of<|Q.of<|Q.of<|Q.of<|Q.of<|Q.pk U U<|Q.mv U<|Q.of<|Q.of<|Q.of<|Q.pk U U<|Q.nt<|S.cF U U<|UW.skip<|UQ.then<|Q.rg<|Q.mv U<|Q.nt<|S.cF U U<|UW.skip<|UQ.aB<|UQ.then<|S.rg<|Q.mv U<|S.qu (Z.add (r:=((j+1:Nat):Int)) U U (IntWalk.i64_in _ (by omega)))<|Q.as U<|US.nil<|?_
    refine S.back (j+1,o) ⟨rfl,rfl,rfl,rfl,rfl,rfl,trivial⟩ (by repeat (first|exact List.Sublist.refl _|exact List.nil_sublist _|refine .cons_cons _ ?_|refine .cons _ ?_)) ?_ (by omega)
    exact⟨hlt,by show o=ru (j+1);rw[hst,hs]⟩
   |true=>
    by_cases hkc:key.toList=aQ.toList
    ·by_cases hgk5:gk=5
     ·have hs:=hcj U ⟨fM hkc,hgk5⟩
      clear hs1 hs2 hcj
      focus
       refine S.sq<|Q.rg<|Q.mv U<|Q.mv U<|S.qu (Z.fG aY U)<|Q.bi U U U<|Q.nt<|S.cT U (decide_eq_true (by omega))<|UW.skip<|UQ.then<|S.sq<|UW.block<|S.sq<|?_
       refine' UW.Gl (by kernel_rfl) [3,0,1,2] [0,0,0,6,14,31,63,127,127,0,767,2047] [some 28,some 29,some 30,some 31,some 32,some 33,some 27,some 34,some 35,none,none,none] [some (28,_),some (29,_),some (30,_),some (31,_),some (32,_),some (33,_),some (27,_),some (34,_),some (35,_),none,none,none] [9,10,11] [] U (by decide) (by decide) (M.kept (by decide) U U ?xI (M.free (by decide) U U ?sD (M.free (by decide) U U ?sF (M.free (by decide) U U ?xJ (M.kept (by decide) U U ?xK (M.free (by decide) U U ?xL (M.free (by decide) U U ?xM (M.free (by decide) U U ?xN (M.free (by decide) U U ?xO (M.skip (M.skip (M.skip M.nil)))))))))))) ?Ir
       case xI=>(intro _ hK;exact Z.kw 0 hK av rfl rfl rfl)
       case sD=>(intro _;exact Z.mv rfl)
       case sF=>(intro _;exact Z.mv rfl)
       case xJ=>(intro _;exact Z.ia aY rfl rfl (by omega) hfl (by rfl))
       case xK=>(intro _ hK;exact Z.fE ed rfl)
       case xL=>(intro _;exact Z.call rfl rfl (λH=>L6 H))
       case xM=>(intro _;exact Z.mv rfl)
       case xN=>(intro _;exact Z.ex rfl rfl)
       case xO=>(intro _;exact Z.ex rfl rfl)
       refine CH.cons U U (by decide) ?_ (.c 3 U (.c 0 U (.c 1 U (.c 2 U .n))))
       refine D.al z26 U U U λp8=>?_
       refine CH.df U U ?_ (.c 4 U (.c 1 U (.c 2 U (.c 3 U .n))))
       refine D.st 0 av U U U U U U U U λ_=>?_
       refine CH.cons U U (by decide) ?_ (.c 4 U (.c 1 U (.c 2 U (.c 3 U .n))))
       refine D.qu (Z.as U)<|?_
       refine CH.nil ?_ (.c 4 U (.c 1 U (.c 2 U (.c 3 U .n))))
       simp only[app,bV]
       refine UQ.then<|S.sq<|Q.rg<|Q.mv U<|Q.mv U<|Q.on (Z.mv U)<|Q.on (Z.mv U)<|Q.on (Z.ia aY U U (by omega) hfl (by rfl))<|?_
       refine Q.on (Z.fE ed U)<|Q.on (Z.bs U U U)<|Q.pk U U<|Q.mv U<|?_
       refine S.tE 44 (λabA=>?_) (λabA=>?_)
       rotate_left
       contradiction
       refine Q.on (Z.fa bP U)<|Q.on (Z.di 0 eQ U U U)<|Q.on (Z.bi U U U)<|Q.pk U U<|Q.nt<|S.cT U (kQ (by omega))<|S.rg<|Q.fa jZ U<|Q.lc 2 ed U U U<|S.qu (Z.dA 0 av U U U)<|S.qu (Z.call U U (λH=>hcg H))<|S.s<|D.uq 0 av U U U U (by exact aA _) (Y _) U U λ_=>?_
       refine Q.nt<|Q.rg<|Q.mv U<|Q.nt<|S.cT U U<|?_
       refine' UW.bG (by kernel_rfl) [0,0,0,6,14,0,63,127] [some 54,some 55,some 56,some 57,some 58,some 59,some 60,none] [some (54,_),some (55,_),some (56,_),some (57,_),some (58,_),some (59,_),some (60,_),none] [7] [0,4,5] U (by decide) (by decide) (M.held (by decide) U U ?abB (M.free (by decide) U U ?abC (M.free (by decide) U U ?abD (M.free (by decide) U U ?abE (M.held (by decide) U U ?abF (M.held (by decide) U U ?abG (M.free (by decide) U U ?abH (M.skip M.nil)))))))) ?q6x1_k
       case abB=>exact Z.dA 1 av rfl rfl (Y _)
       case abC=>(intro _;exact Z.mv rfl)
       case abD=>(intro _;exact Z.mv rfl)
       case abE=>(intro _;exact Z.ia aY rfl rfl (by omega) hfl (by rfl))
       case abF=>exact Z.fE ed rfl
       case abG=>exact Z.dA 0 av rfl rfl (Y _)
       case abH=>(intro _;exact Z.call rfl rfl (λH=>hw cg H))
       refine CH.df U U<|D.uq 1 av U U U U (by exact aA _) (Y _) (Y _) U λ_=>?_
       refine CH.nil<|?_
       simp only[app,bV]
       refine UQ.aB<|UQ.then<|S.rg<|Q.mv U<|S.qu (Z.add (r:=((j+1:Nat):Int)) U U (IntWalk.i64_in _ (by omega)))<|Q.as U<|US.nil<|?_
       refine S.back (j+1,bH o key cg) ⟨rfl,rfl,rfl,rfl,rfl,rfl,trivial⟩ (by repeat (first|exact List.Sublist.refl _|exact List.nil_sublist _|refine .cons_cons _ ?_|refine .cons _ ?_)) ?_ (by omega)
      exact⟨hlt,by show bH o key cg=ru (j+1);rw[hst,hs]⟩
     ·have hs:=hs2 U (λh=>hgk5 h.2)
      clear hs1 hs2 hcj
      focus
       refine S.sq<|Q.rg<|Q.mv U<|Q.mv U<|S.qu (Z.fG aY U)<|Q.bi U U U<|Q.nt<|S.cT U (decide_eq_true (by omega))<|UW.skip<|UQ.then<|S.sq<|UW.block<|S.sq<|?_
       refine' UW.Gl (by kernel_rfl) [3,0,1,2] [0,0,0,6,14,31,63,127,127,0,767,2047] [some 28,some 29,some 30,some 31,some 32,some 33,some 27,some 34,some 35,none,none,none] [some (28,_),some (29,_),some (30,_),some (31,_),some (32,_),some (33,_),some (27,_),some (34,_),some (35,_),none,none,none] [9,10,11] [] U (by decide) (by decide) (M.kept (by decide) U U ?Et (M.free (by decide) U U ?Eu (M.free (by decide) U U ?Ew (M.free (by decide) U U ?Ex (M.kept (by decide) U U ?Ey (M.free (by decide) U U ?Ez (M.free (by decide) U U ?EA (M.free (by decide) U U ?EB (M.free (by decide) U U ?EC (M.skip (M.skip (M.skip M.nil)))))))))))) ?Ua
       case Et=>(intro _ hK;exact Z.kw 0 hK av rfl rfl rfl)
       case Eu=>(intro _;exact Z.mv rfl)
       case Ew=>(intro _;exact Z.mv rfl)
       case Ex=>(intro _;exact Z.ia aY rfl rfl (by omega) hfl (by rfl))
       case Ey=>(intro _ hK;exact Z.fE ed rfl)
       case Ez=>(intro _;exact Z.call rfl rfl (λH=>L6 H))
       case EA=>(intro _;exact Z.mv rfl)
       case EB=>(intro _;exact Z.ex rfl rfl)
       case EC=>(intro _;exact Z.ex rfl rfl)
       refine CH.cons U U (by decide) ?_ (.c 3 U (.c 0 U (.c 1 U (.c 2 U .n))))
       refine D.al z26 U U U λp8=>?_
       refine CH.df U U ?_ (.c 4 U (.c 1 U (.c 2 U (.c 3 U .n))))
       refine D.st 0 av U U U U U U U U λ_=>?_
       refine CH.cons U U (by decide) ?_ (.c 4 U (.c 1 U (.c 2 U (.c 3 U .n))))
       refine D.qu (Z.as U)<|?_
       refine CH.nil ?_ (.c 4 U (.c 1 U (.c 2 U (.c 3 U .n))))
       simp only[app,bV]
       refine UQ.then<|S.sq<|Q.rg<|Q.mv U<|Q.mv U<|Q.on (Z.mv U)<|Q.on (Z.mv U)<|Q.on (Z.ia aY U U (by omega) hfl (by rfl))<|?_
       refine Q.on (Z.fE ed U)<|Q.on (Z.bs U U U)<|Q.pk U U<|Q.mv U<|?_
       refine S.tE 44 (λabA=>?_) (λabA=>?_)
       rotate_left
       contradiction
       refine Q.on (Z.fa bP U)<|Q.on (Z.di 0 eQ U U U)<|Q.on (Z.bi U U U)<|Q.pk U U<|Q.nt<|S.cF U (iy (by omega))<|UW.skip<|UQ.then<|Q.rg<|Q.mv U<|Q.nt<|S.cT U U<|?_
       refine' UW.bG (by kernel_rfl) [0,0,0,6,14,0,63,127] [some 54,some 55,some 56,some 57,some 58,some 59,some 60,none] [some (54,_),some (55,_),some (56,_),some (57,_),some (58,_),some (59,_),some (60,_),none] [7] [0,4,5] U (by decide) (by decide) (M.held (by decide) U U ?Ou (M.free (by decide) U U ?Ov (M.free (by decide) U U ?Ow (M.free (by decide) U U ?Oy (M.held (by decide) U U ?Oz (M.held (by decide) U U ?OA (M.free (by decide) U U ?OB (M.skip M.nil)))))))) ?aa8
       case Ou=>exact Z.dA 1 av rfl rfl (Y _)
       case Ov=>(intro _;exact Z.mv rfl)
       case Ow=>(intro _;exact Z.mv rfl)
       case Oy=>(intro _;exact Z.ia aY rfl rfl (by omega) hfl (by rfl))
       case Oz=>exact Z.fE ed rfl
       case OA=>exact Z.dA 0 av rfl rfl rfl
       case OB=>(intro _;exact Z.call rfl rfl (λH=>hw (.mk gk gn gt gks gvs) H))
       refine CH.df U U<|D.uq 1 av U U U U (by exact aA _) (Y _) (Y _) U λ_=>?_
       refine CH.nil<|?_
       simp only[app,bV]
       refine UQ.aB<|UQ.then<|S.rg<|Q.mv U<|S.qu (Z.add (r:=((j+1:Nat):Int)) U U (IntWalk.i64_in _ (by omega)))<|Q.as U<|US.nil<|?_
       refine S.back (j+1,bH o key (.mk gk gn gt gks gvs)) ⟨rfl,rfl,rfl,rfl,rfl,rfl,trivial⟩ (by repeat (first|exact List.Sublist.refl _|exact List.nil_sublist _|refine .cons_cons _ ?_|refine .cons _ ?_)) ?_ (by omega)
      exact⟨hlt,by show bH o key _=ru (j+1);rw[hst,hs]⟩
    ·have hs:=hs2 U (λh=>hkc (by rw[h.1]))
     clear hs1 hs2 hcj
     refine S.sq<|Q.rg<|Q.mv U<|Q.mv U<|S.qu (Z.fG aY U)<|Q.bi U U U<|Q.nt<|S.cT U (decide_eq_true (by omega))<|UW.skip<|UQ.then<|S.sq<|UW.block<|S.sq<|?_
     refine' UW.Gl (by kernel_rfl) [3,0,1,2] [0,0,0,6,14,31,63,127,127,0,767,2047] [some 28,some 29,some 30,some 31,some 32,some 33,some 27,some 34,some 35,none,none,none] [some (28,_),some (29,_),some (30,_),some (31,_),some (32,_),some (33,_),some (27,_),some (34,_),some (35,_),none,none,none] [9,10,11] [] U (by decide) (by decide) (M.kept (by decide) U U ?abI (M.free (by decide) U U ?abJ (M.free (by decide) U U ?abK (M.free (by decide) U U ?abL (M.kept (by decide) U U ?abM (M.free (by decide) U U ?abN (M.free (by decide) U U ?abO (M.free (by decide) U U ?abP (M.free (by decide) U U ?abQ (M.skip (M.skip (M.skip M.nil)))))))))))) ?q8x0_k
     case abI=>(intro _ hK;exact Z.kw 0 hK av rfl rfl rfl)
     case abJ=>(intro _;exact Z.mv rfl)
     case abK=>(intro _;exact Z.mv rfl)
     case abL=>(intro _;exact Z.ia aY rfl rfl (by omega) hfl (by rfl))
     case abM=>(intro _ hK;exact Z.fE ed rfl)
     case abN=>(intro _;exact Z.call rfl rfl (λH=>L6 H))
     case abO=>(intro _;exact Z.mv rfl)
     case abP=>(intro _;exact Z.ex rfl rfl)
     case abQ=>(intro _;exact Z.ex rfl rfl)
     refine CH.cons U U (by decide) ?_ (.c 3 U (.c 0 U (.c 1 U (.c 2 U .n))))
     refine D.al z26 U U U λp8=>?_
     refine CH.df U U ?_ (.c 4 U (.c 1 U (.c 2 U (.c 3 U .n))))
     refine D.st 0 av U U U U U U U U λ_=>?_
     refine CH.cons U U (by decide) ?_ (.c 4 U (.c 1 U (.c 2 U (.c 3 U .n))))
     refine D.qu (Z.as U)<|?_
     refine CH.nil ?_ (.c 4 U (.c 1 U (.c 2 U (.c 3 U .n))))
     simp only[app,bV]
     refine UQ.then<|S.sq<|Q.rg<|Q.mv U<|Q.mv U<|Q.on (Z.mv U)<|Q.on (Z.mv U)<|Q.on (Z.ia aY U U (by omega) hfl (by rfl))<|?_
     refine Q.on (Z.fE ed U)<|Q.on (Z.bs U U U)<|Q.pk U U<|Q.mv U<|S.tF 44 (iy (by assumption))<|?_
     refine Q.of<|Q.of<|Q.of<|Q.pk U U<|Q.nt<|S.cF U U<|UW.skip<|UQ.then<|Q.rg<|Q.mv U<|Q.nt<|S.cT U U<|?_
     refine' UW.bG (by kernel_rfl) [0,0,0,6,14,0,63,127] [some 54,some 55,some 56,some 57,some 58,some 59,some 60,none] [some (54,_),some (55,_),some (56,_),some (57,_),some (58,_),some (59,_),some (60,_),none] [7] [0,4,5] U (by decide) (by decide) (M.held (by decide) U U ?abR (M.free (by decide) U U ?abS (M.free (by decide) U U ?abT (M.free (by decide) U U ?abU (M.held (by decide) U U ?abV (M.held (by decide) U U ?abW (M.free (by decide) U U ?abX (M.skip M.nil)))))))) ?q8x1_k
     case abR=>exact Z.dA 1 av rfl rfl (Y _)
     case abS=>(intro _;exact Z.mv rfl)
     case abT=>(intro _;exact Z.mv rfl)
     case abU=>(intro _;exact Z.ia aY rfl rfl (by omega) hfl (by rfl))
     case abV=>exact Z.fE ed rfl
     case abW=>exact Z.dA 0 av rfl rfl rfl
     case abX=>(intro _;exact Z.call rfl rfl (λH=>hw (.mk gk gn gt gks gvs) H))
     refine CH.df U U<|D.uq 1 av U U U U (by exact aA _) (Y _) (Y _) U λ_=>?_
     refine CH.nil<|?_
     simp only[app,bV]
     refine UQ.aB<|UQ.then<|S.rg<|Q.mv U<|S.qu (Z.add (r:=((j+1:Nat):Int)) U U (IntWalk.i64_in _ (by omega)))<|Q.as U<|US.nil<|?_
     refine S.back (j+1,bH o key (.mk gk gn gt gks gvs)) ⟨rfl,rfl,rfl,rfl,rfl,rfl,trivial⟩ (by repeat (first|exact List.Sublist.refl _|exact List.nil_sublist _|refine .cons_cons _ ?_|refine .cons _ ?_)) ?_ (by omega)
     exact⟨hlt,by show bH o key _=ru (j+1);rw[hst,hs]⟩
  ·have hj10:j=10:=by omega
   subst hj10
   rw[<-ho]
   refine S.sq<|Q.rg<|Q.mv U<|Q.mv U<|S.qu (Z.fG aY U)<|Q.bi U U U<|Q.nt<|S.cF U (decide_eq_false (by omega))<|UW.exit<|UQ.pass<|UQ.pass<|UQ.here<|UQ.then<|Q.rg<|S.qu (Z.dA 0 av U U (Y _))<|S.s<|D.uq 2 av U U U U (by exact aA _) (Y _) U U λ_=>?_
   refine Q.nt<|UW.ret<|S.bK (λhd=>aU (k:=2) hd U U U fV (by rw[Y];exact fZ))<|?_
   rfl
 ·have J2:F9 x=zeroV:=by unfold F9;rw[if_neg hk]
  rw[J2]
  obtain⟨k,n,t,ks,vs⟩:=x
  have hk':¬k=5:=hk
  refine aF (n:=62) (H0:=H) (I:=[]) Tryz.func89 (by kernel_rfl) U (by rw[Tryz.ntmps89];rfl) .nil<|?_
  refine Q.rg<|S.dd<|D.box U U U λp1=>S.dd<|D.al z26 U U U λp2=>Q.nt<|S.sq<|Q.rg<|Q.fa bP U<|Q.lc 1 eQ U U U<|Q.bi U U U<|Q.nt<|S.cT U (uh (by omega))<|Q.rg<|S.qu (Z.bd [] iE U U U U U U)<|S.s<|D.st 0 av U U U U U U U U λ_=>Q.nt<|UW.ret<|UQ.ax<|S.bK (λhd=>aU (k:=0) hd U U U fV fZ)<|?_
  rfl
theorem yw{a b:ByteArray}(h:a.data.toList=b.data.toList):a=b:=ByteArray.ext (Array.ext' h)
theorem vo(a b:ByteArray):(a++b).data.toList=a.data.toList++b.data.toList:=by rw[ByteArray.data_append,Array.toList_append]
theorem zF(c:Int):(aN c).data.toList=[UInt8.ofNat c.toNat]:=rfl
theorem Bc(n:Int):(sH n).data.toList=Lib.itoa n:=rfl
theorem Mg{u:Nat}(h:¬u<10):Lib.decDigits u=Lib.decDigits (u/10)++[UInt8.ofNat (48+u % 10)]:=by rw[Lib.decDigits,dif_neg h]
theorem abY{n:Int}(h:n<0)(h1: -10<n):aN 45++aN (48+ -n)=sH n:=by
 refine yw ?_
 rw[vo,zF,zF,Bc]
 unfold Lib.itoa
 rw[if_pos h,Lib.decDigits_one (by omega),show(48+ -n).toNat=48+n.natAbs from by omega];rfl
theorem abZ{n:Int}(h:n<= -10):sH (n.tdiv 10)++aN (48+ -(n.tmod 10))=sH n:=by
 have h1:n.tdiv 10= -((n.natAbs/10:Nat):Int):=by
  rw[show n= -((n.natAbs:Nat):Int) from by omega,Int.neg_tdiv]
  congr 1
  rw[Int.natAbs_neg,Int.natAbs_natCast];rfl
 have h2:n.tmod 10= -((n.natAbs % 10:Nat):Int):=by
  rw[show n= -((n.natAbs:Nat):Int) from by omega,Int.neg_tmod]
  congr 1
  rw[Int.natAbs_neg,Int.natAbs_natCast];rfl
 refine yw ?_
 rw[vo,zF,Bc,Bc,h1,h2]
 unfold Lib.itoa
 rw[if_pos (by omega),if_pos (by omega),Int.natAbs_neg,Int.natAbs_natCast,Mg (u:=n.natAbs) (by omega),show(48+ -(-((n.natAbs % 10:Nat):Int))).toNat=48+n.natAbs % 10 from by omega];rfl
theorem ab0{n:Int}(h:0<=n)(h1:n<10):aN (48+n)=sH n:=by
 refine yw ?_
 rw[zF,Bc]
 unfold Lib.itoa
 rw[if_neg (by omega),Lib.decDigits_one (by omega),show(48+n).toNat=48+n.toNat from by omega]
theorem ab1{n:Int}(h:10<=n):sH (n.tdiv 10)++aN (48+n.tmod 10)=sH n:=by
 have h1:n.tdiv 10=n/10:=Int.tdiv_eq_ediv_of_nonneg (by omega)
 have h2:n.tmod 10=n % 10:=Int.tmod_eq_emod_of_nonneg (by omega)
 refine yw ?_
 rw[vo,zF,Bc,Bc,h1,h2]
 unfold Lib.itoa
 rw[if_neg (by omega),if_neg (by omega),Mg (u:=n.toNat) (by omega),show(48+n % 10).toNat=48+n.toNat % 10 from by omega,show(n/10).toNat=n.toNat/10 from by omega]
def rf:List ByteArray->Nat
 |[]=>0
 |a::r=>a.size+1+rf r
def comma:ByteArray:=⟨#[44]⟩
theorem Cy(l:List ByteArray)(sep:ByteArray):(gu l sep).data.toList=Lib.join (l.map (·.data.toList)) sep.data.toList:=rfl
theorem Ga(sep:List UInt8)(r:List (List UInt8))(y:List UInt8):Lib.joinTail sep (r++[y])=Lib.joinTail sep r++sep++y:=by unfold Lib.joinTail;simp[List.append_assoc]
theorem GU(l:List ByteArray)(x sep:ByteArray):gu (l++[x]) sep=if l=[] then x else(gu l sep++sep)++x:=by
 cases l with
 |nil=>exact yw (by rw[Cy];exact Lib.join_one _ _)
 |cons a r=>
  rw[if_neg (by simp)]
  refine yw ?_
  rw[vo,vo,Cy,Cy,List.cons_append,List.map_cons,List.map_append,List.map_cons,List.map_nil,List.map_cons,Lib.join_cons,Lib.join_cons,Ga]
  simp only[List.append_assoc]
theorem wT:∀r:List ByteArray,(Lib.joinTail comma.data.toList (r.map (·.data.toList))).length=rf r
 |[]=>rfl
 |a::r=>by
  have:=wT r
  unfold Lib.joinTail at this⊢
  simp only[List.map_cons,List.flatten_cons,List.length_append,this]
  show 1+_+_=a.size+1+rf r
  have:a.data.toList.length=a.size:=mR a
  omega
theorem tC(l:List ByteArray):(gu l comma).size<=rf l:=by
 have h:=mR (gu l comma)
 rw[<-h,Cy]
 cases l with
 |nil=>exact Nat.zero_le _
 |cons a r=>
  rw[List.map_cons,Lib.join_cons,List.length_append,wT]
  have:a.data.toList.length=a.size:=mR a
  show _<=a.size+1+rf r
  omega
theorem GV:∀(l:List ByteArray) (k:Nat),rf (l.take k)<=rf l
 |[],k=>by simp[rf]
 |a::r,0=>Nat.zero_le _
 |a::r,k+1=>by have:=GV r k;show a.size+1+rf (r.take k)<=a.size+1+rf r;omega
theorem J6:∀(l:List ByteArray) (k:Nat) (h:k<l.length),l[k].size<=rf l
 |a::r,0,_=>by show a.size<=a.size+1+rf r;omega
 |a::r,k+1,h=>by have:=J6 r k (by simpa using h);show(r[k]'(by simpa using h)).size<=a.size+1+rf r;omega
def fo(b:Bool):List ByteArray->List ByteArray->List ByteArray
 |_,[]=>[]
 |[],p::ps=>p::fo b [] ps
 |key::ks,p::ps=>(if b=true then(jM key++aN 58)++p else p)::fo b ks ps
theorem wz(b:Bool):∀ks ps:List ByteArray,(fo b ks ps).length=ps.length
 |[],[]=>rfl
 |_::_,[]=>rfl
 |[],p::ps=>by show _+1=_+1;rw[wz b [] ps]
 |_::ks,p::ps=>by show _+1=_+1;rw[wz b ks ps]
theorem Bd(b:Bool):∀ps:List ByteArray,fo b [] ps=ps
 |[]=>rfl
 |p::ps=>by show p::_=_;rw[Bd b ps]
theorem EW(b:Bool):∀(ks ps:List ByteArray) (i:Nat),i<ps.length->(fo b ks ps).getD i ⟨#[]⟩=if b=true/\i<ks.length then(jM (ks.getD i ⟨#[]⟩)++aN 58)++ps.getD i ⟨#[]⟩ else ps.getD i ⟨#[]⟩
 |[],ps,i,h=>by rw[Bd,if_neg (by rintro⟨_,h2⟩;simp at h2)]
 |key::ks,p::ps,0,h=>by
  show(if b=true then _ else _)=_
  by_cases hb:b=true
  ·rw[if_pos hb,if_pos ⟨hb,Nat.zero_lt_succ _⟩];rfl
  ·rw[if_neg hb,if_neg (λh=>hb h.1)];rfl
 |key::ks,p::ps,i+1,h=>by
  show(fo b ks ps).getD i ⟨#[]⟩=_
  rw[EW b ks ps i (by simpa using h)]
  show _=if b=true/\i+1<ks.length+1 then(jM (ks.getD i ⟨#[]⟩)++aN 58)++ps.getD i ⟨#[]⟩ else ps.getD i ⟨#[]⟩
  by_cases hb:b=true/\i<ks.length
  ·rw[if_pos hb,if_pos ⟨hb.1,by omega⟩]
  ·rw[if_neg hb,if_neg (λh=>hb ⟨h.1,by omega⟩)]
def tH:List ByteArray->Nat
 |[]=>0
 |a::r=>6*a.size+4+tH r
theorem wB(b:Bool):∀ks ps:List ByteArray,rf (fo b ks ps)<=tH ks+rf ps
 |[],ps=>by rw[Bd];exact Nat.le_add_left _ _
 |_::_,[]=>Nat.zero_le _
 |key::ks,p::ps=>by
  have h1:=wB b ks ps
  have h2:=uU key
  show(if b=true then(jM key++aN 58)++p else p).size+1+rf (fo b ks ps)<=6*key.size+4+tH ks+(p.size+1+rf ps)
  split
  ·rw[aZ,aZ,aV];omega
  ·omega
def ZC:ByteArray:=⟨#[110,117,108,108]⟩
def Gb(k n:Int)(t:ByteArray)(ks ps:List ByteArray):ByteArray:=
 if k=0 then ZC else if k=1 then DF (n==1) else if k=2 then sH n else if k=3 then jM t else
 if k=5 then(aN 123++gu (fo true ks ps) comma)++aN 125 else(aN 91++gu (fo false ks ps) comma)++aN 93
mutual
def aO:V->ByteArray
 | .mk k n t ks vs=>Gb k n t ks (zG vs)
def zG:List V->List ByteArray
 |[]=>[]
 |v::r=>aO v::zG r
end
theorem EX:∀l:List V,zG l=l.map aO
 |[]=>by rw[zG];rfl
 |v::r=>by rw[zG,EX r];rfl
theorem fP(k n:Int)(t:ByteArray)(ks:List ByteArray)(vs:List V):aO (.mk k n t ks vs)=Gb k n t ks (vs.map aO):=by rw[aO,EX]
mutual
def rq:V->Nat
 | .mk _ _ t ks vs=>30+6*t.size+tH ks+dW vs
def dW:List V->Nat
 |[]=>0
 |v::r=>rq v+1+dW r
end
theorem jB(k n:Int)(t:ByteArray)(ks:List ByteArray)(vs:List V):rq (.mk k n t ks vs)=30+6*t.size+tH ks+dW vs:=by rw[rq]
theorem zH:∀{vs:List V} {x:V},x∈vs->rq x<dW vs+1
 |v::r,x,h=>by
  rw[dW]
  rcases List.mem_cons.1 h with rfl|h
  ·omega
  ·have:=zH h;omega
theorem O1:∀(ks:List ByteArray) (i:Nat) (h:i<ks.length),ks[i].size<=tH ks
 |a::r,0,_=>by show a.size<=6*a.size+4+tH r;omega
 |a::r,k+1,h=>by have:=O1 r k (by simpa using h);show(r[k]'(by simpa using h)).size<=6*a.size+4+tH r;omega
inductive ky:V->Prop
 |mk (k n:Int) (t:ByteArray) (ks:List ByteArray) (vs:List V) (h0: -9223372036854775808<=n) (h1:n<=9223372036854775807) (h:∀x∈vs,ky x):ky (.mk k n t ks vs)
theorem J7:∀vs:List V,(∀x∈vs,(aO x).size<=rq x)->rf (vs.map aO)<=dW vs
 |[],_=>Nat.zero_le _
 |v::r,h=>by
  have h1:=J7 r (λx hx=>h x (List.mem_cons_of_mem _ hx))
  have h2:=h v (List.mem_cons_self ..)
  rw[dW]
  show(aO v).size+1+rf (r.map aO)<=_
  omega
theorem Mh(b:Bool):(DF b).size<=5:=by cases b<;>decide
theorem vv{x:V}(hn:ky x):(aO x).size<=rq x:=by
 induction hn with
 |mk k n t ks vs h0 h1 h ih=>
  have h2:=J7 vs ih
  have h3:=wB true ks (vs.map aO)
  have h4:=wB false ks (vs.map aO)
  have h5:=tC (fo true ks (vs.map aO))
  have h6:=tC (fo false ks (vs.map aO))
  have h7:=uU t
  have h8:=Gv n h0 h1
  have h9:=Mh (n==1)
  have h10:ZC.size=4:=rfl
  rw[fP,jB]
  unfold Gb
  (repeat' split)<;>(try simp only[aZ,aV])<;>omega
structure Pr(x:V):Prop where
 fits:Fits x
 num:ky x
 wt:rq x<=1000000000
theorem Pr.kid{k n:Int}{t:ByteArray}{ks:List ByteArray}{vs:List V}(h:Pr (.mk k n t ks vs)){x:V}(hx:x∈vs):Pr x:=by
 have h1:=h.fits;have h2:=h.num;have h3:=h.wt
 rw[jB] at h3
 have h4:=zH hx
 cases h1 with|mk _ _ _ _ _ a b c=>cases h2 with|mk _ _ _ _ _ d e f=>exact⟨c x hx,f x hx,by omega⟩
end Go.Proofs.YtonpfomjoiaacaaGreatDoor
end
