/- A part of the proof. -/
import Derived.Test.YtonpfomjoiaacaaGreatDoorMz35
import Derived.Test.YtonpfomjoiaacaaGreatDoorMz17
set_option maxRecDepth 100000
set_option maxHeartbeats 4000000
set_option linter.unusedSectionVars false
set_option linter.unusedVariables false
set_option linter.unusedSimpArgs false
section
namespace Go.Proofs.YtonpfomjoiaacaaGreatDoor
open Go Go.fT Go.RowKit
theorem D.apl{P:Program}{n:Nat}{ops:Array Oper}{H0:Hp}{K:AV->List (Nat×Ob)->Prop}{l:List (Nat×AV)}{I:List (Nat×Ob)}{dst:Option Nat}{ty t e sz b id:Nat}{ps:String}{af:Array Edge}{u:AV}{rows news rws:List (List AV)}{s x:Operand}{len:Nat}(k m:Nat)(ht:jE P t e sz b)(hs:aT l s=some (.own id 0 len sz))(h2:I[k]? =some (id,.row e sz rows))(hle:len<=rows.length)(hx:aT l x=some u)(hsrc:rO I sz u news)(hb:(len+news.length)*b<=140737488355328)(hr:rows.take len++news=rws)(hm:len+news.length=m)
 (hk:∀id',K (.own id' 0 m sz) ((id',.row e sz rws)::I.eraseIdx k)):DS P n ops H0 ⟨dst,.call {callee:=.builtin .append,args:= #[s,x],argTypes:= #[t,t]},ty,ps,af,none⟩ l I K:=by
 subst hm
 exact D.ap k ht hs h2 hle hx hsrc hb hr hk
def nA(ks:List ByteArray)(vs:List V)(g:ByteArray->Bool)(i:Nat):List (ByteArray×V):=((ks.zip vs).take i).filter λp=>g p.1
def iQ(x:V)(g:ByteArray->Bool):V:=.mk 5 0 ⟨#[]⟩ ((nA x.ks x.vs g (min x.ks.length x.vs.length)).map (·.1)) ((nA x.ks x.vs g (min x.ks.length x.vs.length)).map (·.2))
theorem Ux(ks:List ByteArray)(vs:List V)(g:ByteArray->Bool)(i:Nat)(h1:i<ks.length)(h2:i<vs.length):nA ks vs g (i+1)=nA ks vs g i++(if g ks[i]=true then[(ks[i],vs[i])] else[]):=by
 unfold nA
 have hz:i<(ks.zip vs).length:=by rw[List.length_zip];omega
 rw[List.take_add_one,List.getElem?_eq_getElem hz,List.filter_append,List.getElem_zip]
 congr 1
 show List.filter _ [(ks[i],vs[i])]=_
 by_cases hg:g ks[i]=true
 ·simp[hg]
 ·have:g ks[i]=false:=by simpa using hg
  simp[this]
theorem JZ(ks:List ByteArray)(vs:List V)(g:ByteArray->Bool)(i:Nat):(nA ks vs g i).length<=i:=by
 unfold nA
 have h1:=List.length_filter_le (λp:ByteArray×V=>g p.1) ((ks.zip vs).take i)
 rw[List.length_take] at h1
 omega
theorem Uy(x:V)(hx:Fits x)(f:Nat)(bS:List AV)(g:ByteArray->Bool)(H:Hp)(Yr:∀k∈x.ks,∀H',Sub H H'->au Tryz.prog f ([.v (.string k)]++bS) H' (bz H' (.v (.bool (g k))))):au Tryz.prog 131 [.agg (aD x),.gN f bS] H (K9 H (iQ x g)):=by
 obtain⟨k,n,t,ks,vs⟩:=x
 have hks:(V.mk k n t ks vs).ks=ks:=rfl
 rw[hks] at Yr
 have hvl:=aP vs
 have hkl:(ks.map encS).length=ks.length:=List.length_map ..
 have hb:ks.length<=1000000/\vs.length<=1000000/\∀x∈vs,Fits x:=by cases hx with|mk _ _ _ _ _ a b c=>exact⟨a,b,c⟩
 refine aF (n:=48) (H0:=H) (I:=[]) Tryz.func131 (by kernel_rfl) U (by rw[Tryz.ntmps131];rfl) .nil<|?_
 refine Q.rg<|S.dd<|D.box U U U λp2=>S.dd<|D.al z26 U U U λp4=>Q.nt<|Q.rg<|S.qu (Z.bdp [0] iE U U U U U)<|S.dd<|D.al z26 U U U λp5=>S.s<|D.st 0 av U U U U U U U U λ_=>?_
 (refine US.qi (sz:=1) 0 3 9 (by decide) U U (λrk=>?_);simp only[List.set_cons_zero,List.set_cons_succ])
 (refine US.qi (sz:=5) 1 4 26 (by decide) U U (λrv=>?_);simp only[List.set_cons_zero,List.set_cons_succ])
 refine Q.nt<|S.sq<|Q.rg<|Q.fa dw U<|Q.lc 4 dD U U U<|S.qu (Z.fG aY U)<|Q.fa bO U<|Q.lc 4 dF U U U<|S.qu (Z.fG bM U)<|?_
 refine S.qu (Z.eq (u':=.v (.int .i64 ((min ks.length vs.length:Nat):Int))) (Z.min U U) (by congr 2;rw[hkl,hvl];split<;>omega)) ?_
 refine Q.mv U<|Q.nt<|UW.block<|S.loop (λj:Nat×Nat×Nat=>[(15,.v (.int .i64 (j.1:Int))),(14,.v (.int .i64 ((min ks.length vs.length:Nat):Int))),(1,.gN f bS),(5,.ptr p5 0),(4,.ptr p4 0),(2,.ptr p2 0)]) (λj=>[(j.2.2,.row 26 5 (aW ((nA ks vs g j.1).map (·.2)))),(j.2.1,.row 9 1 (((nA ks vs g j.1).map (·.1)).map encS)),(p5,.box 26 [.v (.int .i64 5),.v (.int .i64 0),.v (.string ⟨#[]⟩),.own j.2.1 0 (nA ks vs g j.1).length 1,.own j.2.2 0 (nA ks vs g j.1).length 5]),(p4,.box 26 (aD zeroV)),(p2,.box 26 (aD (.mk k n t ks vs)))]) (λj=>j.1<=min ks.length vs.length) (λj=>min ks.length vs.length-j.1) (0,rk,rv) (Nat.zero_le _) ⟨rfl,rfl,rfl,rfl,rfl,rfl,trivial⟩ (.refl _)<|?_
 rintro⟨j,r1,r2⟩ hj
 dsimp only at hj⊢
 have hsl:=JZ ks vs g j
 have h1l:(((nA ks vs g j).map (·.1)).map encS).length=(nA ks vs g j).length:=by rw[List.length_map,List.length_map]
 have h2l:(aW ((nA ks vs g j).map (·.2))).length=(nA ks vs g j).length:=by rw[aP,List.length_map]
 by_cases hlt:j<min ks.length vs.length
 ·have hjk:j<ks.length:=by omega
  have hjv:j<vs.length:=by omega
  have L6:=eD ks j hjk
  have hgv:=fK vs j hjv
  have hfv:=hb.2.2 vs[j] (List.getElem_mem hjv)
  have hcp:∀H,au Tryz.prog 44 [.agg (aD vs[j])] H (bz H (.agg (aD vs[j]))):=λH=>iW (jV vs[j] hfv H)
  have hmk:=Yr ks[j] (List.getElem_mem hjk)
  have hsu:=Ux ks vs g j hjk hjv
  by_cases hgj:g ks[j]=true
  ·rw[if_pos hgj] at hsu
   have hlen:(nA ks vs g (j+1)).length=(nA ks vs g j).length+1:=by rw[hsu,List.length_append];rfl
   have ha1:(((nA ks vs g j).map (·.1)).map encS).take (nA ks vs g j).length++[[.v (.string ks[j])]]=((nA ks vs g (j+1)).map (·.1)).map encS:=by
    rw[List.take_of_length_le (by omega),hsu,List.map_append,List.map_append];rfl
   have ha2:(aW ((nA ks vs g j).map (·.2))).take (nA ks vs g j).length++[aD vs[j]]=aW ((nA ks vs g (j+1)).map (·.2)):=by
    rw[List.take_of_length_le (by omega),hsu,List.map_append,eB,eB,List.map_append];rfl
   refine Q.rg<|Q.bi U U U<|Q.nt<|S.sq<|S.cT U (decide_eq_true (by omega))<|UW.skip<|UQ.then<|S.sq<|UW.block<|Q.rg<|Q.mv U<|Q.as U<|Q.nt<|Q.rg<|Q.mv U<|Q.fa dw U<|Q.lc 4 dD U U U<|Q.mv U<|S.qu (Z.ia aY U U (by omega) (by assumption) (by rfl))<|?_
   refine S.qu (Z.fE ed U)<|S.qu (Z.nK U U (λhd=>hmk _ (nR hd)))<|Q.nt<|S.cT U (by assumption)<|?_
   refine S.sq<|?_
   refine' UW.bG (by kernel_rfl) [0,1,0,4,0,28,60,124,255,511,1023] [some 25,some 26,some 27,some 28,some 29,some 30,some 31,some 32,none,none,none] [some (25,_),some (26,_),some (27,_),some (28,_),some (29,_),some (30,_),some (31,_),some (32,_),none,none,none] [8,9,10] [1,3,6] U (by decide) (by decide) (M.free (by decide) U U ?iX (M.held (by decide) U U ?iY (M.free (by decide) U U ?iZ (M.held (by decide) U U ?ja (M.free (by decide) U U ?jb (M.free (by decide) U U ?jc (M.held (by decide) U U ?jd (M.free (by decide) U U ?kH (M.skip (M.skip (M.skip M.nil))))))))))) ?sj
   case iX=>(intro _;exact Z.fa dw rfl)
   case iY=>exact Z.di 2 dD rfl rfl rfl
   case iZ=>(intro _;exact Z.fa dw rfl)
   case ja=>exact Z.di 4 dD rfl rfl rfl
   case jb=>(intro _;exact Z.mv rfl)
   case jc=>(intro _;exact Z.ia aY rfl rfl (by omega) (by assumption) (by rfl))
   case jd=>exact Z.fE ed rfl
   case kH=>(intro _;exact Z.bl dV rfl rfl (bA rfl))
   refine CH.cons U U (by decide)<|D.apl 1 (nA ks vs g (j+1)).length dV U U (by omega) U (.sl (j3 U)) (by first|omega|(simp;omega)) ha1 hlen.symm λp33=>?_
   refine CH.cons U U (by decide)<|D.qu (Z.fa dw U)<|CH.df U U<|D.st 2 dD U U U U U U U U λ_=>CH.nil<|?_
   simp only[app,bV]
   refine UQ.then<|?_
   refine' UW.bG (by kernel_rfl) [0,1,0,4,0,28,60,124,252,511,1023,2047] [some 35,some 36,some 37,some 38,some 39,some 40,some 41,some 42,some 43,none,none,none] [some (35,_),some (36,_),some (37,_),some (38,_),some (39,_),some (40,_),some (41,_),some (42,_),some (43,_),none,none,none] [9,10,11] [1,3,6] U (by decide) (by decide) (M.free (by decide) U U ?abo (M.held (by decide) U U ?abp (M.free (by decide) U U ?abq (M.held (by decide) U U ?abr (M.free (by decide) U U ?abt (M.free (by decide) U U ?abu (M.held (by decide) U U ?abv (M.free (by decide) U U ?abw (M.free (by decide) U U ?abx (M.skip (M.skip (M.skip M.nil)))))))))))) ?q1x1_k
   case abo=>(intro _;exact Z.fa bO rfl)
   case abp=>exact Z.di 2 dF rfl rfl rfl
   case abq=>(intro _;exact Z.fa bO rfl)
   case abr=>exact Z.di 4 dF rfl rfl rfl
   case abt=>(intro _;exact Z.mv rfl)
   case abu=>(intro _;exact Z.ia bM rfl rfl (by omega) (by assumption) (by exact Y _))
   case abv=>exact Z.Gm av rfl (Y _)
   case abw=>(intro _;exact Z.call rfl rfl (λH=>hcp H))
   case abx=>(intro _;exact Z.bl iP rfl rfl (by intro cs h;cases List.mem_singleton.1 h;exact⟨by first|rfl|exact aA _,by first|rfl|exact Y _⟩))
   refine CH.cons U U (by decide)<|D.apl 1 (nA ks vs g (j+1)).length iP U U (by omega) U (.sl (by intro cs h;cases List.mem_singleton.1 h;exact Y _)) (by first|omega|(simp;omega)) ha2 hlen.symm λp44=>?_
   refine CH.cons U U (by decide)<|D.qu (Z.fa bO U)<|CH.df U U<|D.st 2 dF U U U U U U U U λ_=>CH.nil<|?_
   simp only[app,bV]
   refine UQ.aB<|UQ.then<|S.rg<|S.qu (Z.add (r:=((j+1:Nat):Int)) U U (IntWalk.i64_in _ (by omega)))<|Q.mv U<|US.nil<|?_
   refine S.back (j+1,p33,p44) ⟨rfl,rfl,rfl,rfl,rfl,rfl,trivial⟩ (.refl _) (by omega) (by omega)
  ·rw[if_neg hgj,List.append_nil] at hsu
   rw[<-hsu]
   refine Q.rg<|Q.bi U U U<|Q.nt<|S.sq<|S.cT U (decide_eq_true (by omega))<|UW.skip<|UQ.then<|S.sq<|UW.block<|Q.rg<|Q.mv U<|Q.as U<|Q.nt<|Q.rg<|Q.mv U<|Q.fa dw U<|Q.lc 4 dD U U U<|Q.mv U<|S.qu (Z.ia aY U U (by omega) (by assumption) (by rfl))<|?_
   refine S.qu (Z.fE ed U)<|S.qu (Z.nK U U (λhd=>hmk _ (nR hd)))<|Q.nt<|?_
   refine S.cB U (λhc24=>?_) (λhc24=>?_)
   contradiction
   refine UW.skip<|UQ.aB<|UQ.then<|S.rg<|S.qu (Z.add (r:=((j+1:Nat):Int)) U U (IntWalk.i64_in _ (by omega)))<|Q.mv U<|US.nil<|?_
   refine S.back (j+1,r1,r2) ⟨rfl,rfl,rfl,rfl,rfl,rfl,trivial⟩ (.refl _) (by omega) (by omega)
 ·have hjm:j=min ks.length vs.length:=by omega
  subst hjm
  have e1:(iQ (.mk k n t ks vs) g).ks.length=(nA ks vs g (min ks.length vs.length)).length:=List.length_map ..
  have e2:(iQ (.mk k n t ks vs) g).vs.length=(nA ks vs g (min ks.length vs.length)).length:=List.length_map ..
  refine Q.rg<|Q.bi U U U<|Q.nt<|S.sq<|S.cF U (decide_eq_false (by omega))<|UW.exit<|UQ.pass<|UQ.pass<|UQ.here<|UQ.then<|Q.rg<|S.qu (Z.dA 2 av U U U)<|S.s<|D.st 3 av U U U U U U U U λ_=>Q.nt<|UW.ret<|?_
  exact bN [_,_] (λhd=>aU (k:=3) hd U U U fV fZ) (.cons_cons _ (.cons_cons _ (List.nil_sublist _))) λhd=>⟨_,hd,rfl,r1,r2,_,_,by rw[e1,e2];rfl,rfl,by rw[e1,h1l];exact Nat.le_refl _,by rw[e1,<-h1l,List.take_length];rfl,by rw[e2,h2l];exact Nat.le_refl _,by rw[e2,<-h2l,List.take_length];rfl⟩
theorem GN(x:V)(hx:Fits x)(f:Nat)(bS:List AV)(g:ByteArray->Bool)(H:Hp)(Yr:∀k∈x.ks,∀H',Sub H H'->au Tryz.prog f ([.v (.string k)]++bS) H' (bz H' (.v (.bool (g k))))):au Tryz.prog 131 [.agg (aD x),.gN f bS] H (bz H (.agg (aD (iQ x g)))):=vU (Uy x hx f bS g H Yr)
theorem wu{x:V}(hx:Fits x)(g:ByteArray->Bool):Fits (iQ x g):=by
 cases hx with
 |mk k n t ks vs h1 h2 h3=>
  have hsl:=JZ ks vs g (min ks.length vs.length)
  refine .mk _ _ _ _ _ (by show(List.map _ (nA ks vs g (min ks.length vs.length))).length<=_;rw[List.length_map];omega) (by show(List.map _ (nA ks vs g (min ks.length vs.length))).length<=_;rw[List.length_map];omega) λy hy=>?_
  obtain⟨p,hp,rfl⟩:=List.mem_map.1 hy
  exact h3 _ (List.of_mem_zip (List.mem_of_mem_take (List.mem_filter.1 hp).1)).2
def dK:ByteArray:=⟨#[116,121,112,101]⟩
def aQ:ByteArray:=⟨#[99,111,110,116,101,110,116]⟩
def sZ(x:V):V:=iQ x (hasB dC)
def tq(x:V):V:=(aI (sZ x) aQ).1
def jX(x:V):V:=if x.k=5 then(if (tq x).k=5 then bH (sZ x) aQ (iQ (tq x) (fO (aI x dK).1.t)) else sZ x) else zeroV
theorem RJ(key:ByteArray)(p:Nat)(H:Hp)(hp:H p=some (.box 23 [strs dC])):au Tryz.prog 132 [.v (.string key),.ptr p 0] H (bz H (.v (.bool (hasB dC key)))):=by
 refine aF (n:=7) (H0:=H) (I:=[]) Tryz.func132 (by kernel_rfl) U (by rw[Tryz.ntmps132];rfl) .nil<|?_
 refine Q.rg<|Q.as U<|Q.nt<|Q.rg<|S.qu (Z.ldo (by assumption) dD U U)<|?_
 refine Q.mv U<|S.qu (Z.call U U (λH=>mK dC key (by decide) H))<|Q.as U<|Q.nt<|UW.ret<|S.bK (λ_=>ak U U)<|?_
 rfl
theorem RL(key:ByteArray)(p:Nat)(y:V)(H:Hp)(hG:gU H)(hp:H p=some (.box 26 (aD y))):au Tryz.prog 133 [.v (.string key),.ptr p 0] H (bz H (.v (.bool (fO y.t key)))):=by
 obtain⟨k,n,t,ks,vs⟩:=y
 refine aF (n:=8) (H0:=H) (I:=[]) Tryz.func133 (by kernel_rfl) U (by rw[Tryz.ntmps133];rfl) .nil<|?_
 refine Q.rg<|Q.as U<|Q.nt<|Q.rg<|Q.fa jZ U<|S.qu (Z.ldo (by assumption) ed U U)<|?_
 refine Q.mv U<|S.qu (Z.fe U U (λ_ hS=>RI t key _ (hG.mono hS)))<|Q.as U<|Q.nt<|UW.ret<|S.bK (λ_=>ak U U)<|?_
 rfl
theorem lK{x:V}(hx:Fits x)(s:ByteArray):Fits (aI x s).1:=by
 unfold aI
 split
 ·rename_i i hp
  cases hx with
  |mk k n t ks vs h1 h2 h3=>
   have hi:i<vs.length:=by
    unfold pl at hp
    split at hp
    ·split at hp
     ·split at hp
      ·rename_i h;cases hp;exact h
      ·cases hp
     ·cases hp
    ·cases hp
   exact h3 _ (eY hi)
 ·exact mq
theorem Md(x:V)(hx:Fits x)(H:Hp)(hG:gU H):au Tryz.prog 92 [.agg (aD x)] H (bz H (.agg (aD (jX x)))):=by
 have ho:Fits (sZ x):=wu hx _
 have hc:Fits (tq x):=lK ho _
 have hpk:Fits (iQ (tq x) (fO (aI x dK).1.t)):=wu hc _
 by_cases hk:x.k=5
 ·have J2:jX x=if (tq x).k=5 then bH (sZ x) aQ (iQ (tq x) (fO (aI x dK).1.t)) else sZ x:=by unfold jX;rw[if_pos hk]
  have hg1:∀H,au Tryz.prog 63 [.agg (aD x),.v (.string dK)] H (bz H (.kM [.agg (aD (aI x dK).1),.v (.bool (aI x dK).2)])):=λH=>qR x hx dK H
  have hg2:∀H,au Tryz.prog 63 [.agg (aD (sZ x)),.v (.string aQ)] H (bz H (.kM [.agg (aD (tq x)),.v (.bool (aI (sZ x) aQ).2)])):=λH=>qR (sZ x) ho aQ H
  have aby:∀p H,H p=some (.box 23 [strs dC])->au Tryz.prog 131 [.agg (aD x),.gN 132 [.ptr p 0]] H (bz H (.agg (aD (sZ x)))):=λp H h=>GN x hx _ _ _ H (λk _ H' hs=>RJ k p H' (hs _ _ h))
  have Uz:∀p H,gU H->H p=some (.box 26 (aD (aI x dK).1))->au Tryz.prog 131 [.agg (aD (tq x)),.gN 133 [.ptr p 0]] H (bz H (.agg (aD (iQ (tq x) (fO (aI x dK).1.t))))):=λp H h1 h=>GN (tq x) hc _ _ _ H (λk _ H' hs=>RL k p _ H' (h1.mono hs) (hs _ _ h))
  have ZB:∀H,au Tryz.prog 77 [.agg (aD (sZ x)),.v (.string aQ),.agg (aD (iQ (tq x) (fO (aI x dK).1.t)))] H (bz H (.agg (aD (bH (sZ x) aQ (iQ (tq x) (fO (aI x dK).1.t)))))):=λH=>vX (sZ x) ho aQ _ hpk H
  rw[J2]
  clear J2
  generalize sZ x=o at*
  generalize tq x=c at*
  generalize iQ c (fO (aI x dK).1.t)=pc at*
  generalize (aI x dK).1=kd at*
  generalize (aI x dK).2=kb at*
  generalize (aI o aQ).2=cb at*
  obtain⟨k,n,t,ks,vs⟩:=x
  obtain⟨ck,cn,ct,cks,cvs⟩:=c
  have hk':k=5:=hk
  subst hk'
  refine aF (n:=36) (H0:=H) (I:=[]) Tryz.func92 (by kernel_rfl) U (by rw[Tryz.ntmps92];rfl) .nil<|?_
  refine Q.rg<|S.dd<|D.box U U U λp1=>S.dd<|D.al z26 U U U λp2=>Q.nt<|S.sq<|Q.rg<|Q.fa bP U<|Q.lc 1 eQ U U U<|Q.bi U U U<|Q.nt<|S.cF U (nL (by omega))<|UW.skip<|UQ.then<|Q.rg<|S.qu (Z.fe U U (λ_ hS=>BM rH dC (by decide) (by decide) JX (by decide) _ (hG.mono hS)))<|S.dd<|D.al z23 U U U λp3=>S.s<|D.st 0 dD U U U U U U U U λ_=>Q.nt<|Q.rg<|S.qu (Z.dA 2 av U U U)<|S.qu (Z.mf U)<|S.qu (Z.nK U U (λhd=>aby p3 _ (hd.at_ (k:=0) U)))<|S.dd<|D.al z26 U U U λp4=>S.s<|D.uq 0 av U U U U (by exact aA _) (Y _) U U λ_=>?_
  refine Q.nt<|Q.rg<|S.qu (Z.dA 3 av U U U)<|S.qu (Z.call U U (λH=>hg1 H))<|Q.mv U<|S.qu (Z.ex U U)<|S.qu (Z.ex U U)<|S.dd<|D.al z26 U U U λp5=>S.s<|D.uq 0 av U U U U (by exact aA _) (Y _) U U λ_=>?_
  refine Q.as U<|Q.nt<|S.sq<|Q.rg<|S.qu (Z.dA 1 av U U (Y _))<|S.qu (Z.call U U (λH=>hg2 H))<|Q.mv U<|S.qu (Z.ex U U)<|S.qu (Z.ex U U)<|S.dd<|D.al z26 U U U λp7=>S.s<|D.st 0 av U U U U U U U U λ_=>Q.as U<|Q.nt<|Q.rg<|Q.fa bP U<|Q.lc 0 eQ U U U<|Q.bi U U U<|Q.nt<|?_
  refine S.cE U (λhc29=>?_) (λhc29=>?_)
  refine' UW.Ta (by kernel_rfl) [0] [0,0,0,6,15,31] [none,some 31,some 32,none,none,none] [none,some (31,_),some (32,_),none,none,none] [0,3,4,5] [3,0,4,5] [] U (by decide) (by decide) (by decide) (by decide) (M.skip (M.kept (by decide) U U ?sD (M.free (by decide) U U ?sF (M.skip (M.skip (M.skip M.nil)))))) ?Ir ?q6x0_k2
  case sD=>(intro _ hK;exact Z.kw 0 hK av rfl rfl rfl)
  case sF=>(intro _;exact Z.mf rfl)
  refine CH.cons U U (by decide) ?_ (.c 0 U .n)
  refine D.qu (Z.dA 2 av U U (Y _))<|?_
  refine CH.cons U U (by decide) ?_ (.c 0 U .n)
  refine D.qu (Z.nK U U (λhd=>Uz p5 _ (hG.ext hd) (hd.at_ (k:=1) U)))<|?_
  refine CH.cons U U (by decide) ?_ (.c 0 U .n)
  refine D.qu (Z.call U U (λH=>ZB H))<|?_
  refine CH.df U U ?_ (.c 0 U .n)
  refine D.uq 2 av U U U U (by exact aA _) (Y _) (Y _) U λ_=>?_
  refine CH.nil ?_ (.c 0 U .n)
  simp only[app,bV]
  refine UQ.then<|Q.rg<|S.qu (Z.dA 2 av U U (Y _))<|S.s<|D.uq 4 av U U U U (by exact aA _) (Y _) U U λ_=>?_
  refine Q.nt<|UW.ret<|S.bK (λhd=>aU (k:=4) hd U U U fV (by rw[Y];exact fZ))<|?_
  focus ((split<;>first|rfl|(exact absurd hc29 (by assumption))|(exact absurd (by assumption) hc29));done)
  refine CH.cons U U (by decide) ?_ (.c 0 U .n)
  refine D.qu (Z.nK U U (λhd=>Uz p5 _ (hG.ext hd) (hd.at_ (k:=1) U)))<|?_
  refine CH.cons U U (by decide) ?_ (.c 0 U .n)
  refine D.qu (Z.dA 2 av U U (Y _))<|?_
  refine CH.cons U U (by decide) ?_ (.c 0 U .n)
  refine D.qu (Z.call U U (λH=>ZB H))<|?_
  refine CH.df U U ?_ (.c 0 U .n)
  refine D.uq 2 av U U U U (by exact aA _) (Y _) (Y _) U λ_=>?_
  refine CH.nil ?_ (.c 0 U .n)
  simp only[app,bV]
  refine UQ.swap<|UQ.then<|Q.rg<|S.qu (Z.dA 2 av U U (Y _))<|S.s<|D.uq 4 av U U U U (by exact aA _) (Y _) U U λ_=>?_
  refine Q.nt<|UW.ret<|S.bK (λhd=>aU (k:=4) hd U U U fV (by rw[Y];exact fZ))<|?_
  focus ((split<;>first|rfl|(exact absurd hc29 (by assumption))|(exact absurd (by assumption) hc29));done)
  refine UW.skip<|UQ.then<|Q.rg<|S.qu (Z.dA 2 av U U (Y _))<|S.s<|D.uq 4 av U U U U (by exact aA _) (Y _) U U λ_=>?_
  refine Q.nt<|UW.ret<|S.bK (λhd=>aU (k:=4) hd U U U fV (by rw[Y];exact fZ))<|?_
  focus ((split<;>first|rfl|(exact absurd hc29 (by assumption))|(exact absurd (by assumption) hc29));done)
 ·have J2:jX x=zeroV:=by unfold jX;rw[if_neg hk]
  rw[J2]
  obtain⟨k,n,t,ks,vs⟩:=x
  have hk':¬k=5:=hk
  refine aF (n:=36) (H0:=H) (I:=[]) Tryz.func92 (by kernel_rfl) U (by rw[Tryz.ntmps92];rfl) .nil<|?_
  refine Q.rg<|S.dd<|D.box U U U λp1=>S.dd<|D.al z26 U U U λp2=>Q.nt<|S.sq<|Q.rg<|Q.fa bP U<|Q.lc 1 eQ U U U<|Q.bi U U U<|Q.nt<|S.cT U (uh (by omega))<|Q.rg<|S.qu (Z.bd [] iE U U U U U U)<|S.s<|D.st 0 av U U U U U U U U λ_=>Q.nt<|UW.ret<|UQ.ax<|S.bK (λhd=>aU (k:=0) hd U U U fV fZ)<|?_
  rfl
theorem Me(ks:List ByteArray)(key:ByteArray):(∀j (h:j<ks.length),j<bQ ks key->dP ks[j] key=true)/\(∀h:bQ ks key<ks.length,dP ks[bQ ks key] key=false):=by
 cases h:ks.findIdx? (λk=>!(dP k key)) with
 |none=>
  have e:bQ ks key=ks.length:=by unfold bQ rY;rw[h];rfl
  rw[e]
  rw[List.findIdx?_eq_none_iff] at h
  refine⟨λj hj _=>?_,λh=>absurd h (by omega)⟩
  have:=h _ (List.getElem_mem hj)
  simpa using this
 |some i=>
  have e:bQ ks key=i:=by
   unfold bQ rY;rw[h]
   show(if (i:Int)<0 then _ else(i:Int).toNat)=i
   rw[if_neg (by omega)];rfl
  obtain⟨h1,h2,h3⟩:=List.findIdx?_eq_some_iff_getElem.1 h
  refine⟨λj hj hji=>?_,λh=>?_⟩
  ·have:=h3 j (by omega)
   simpa using this
  ·simp only[e]
   simpa using h2
theorem mr{α:Type}(l:List α)(p:Nat)(x z:α)(hp:p<=l.length)(k:Nat):(dO l p x).getD k z=if k<p then l.getD k z else if k=p then x else l.getD (k-1) z:=by
 unfold dO
 simp only[List.getD]
 by_cases h1:k<p
 ·rw[if_pos h1,List.getElem?_append_left (by rw[List.length_take];omega),List.getElem?_take,if_pos h1]
 ·rw[if_neg h1,List.getElem?_append_right (by rw[List.length_take];omega),List.length_take,Nat.min_eq_left hp]
  by_cases h2:k=p
  ·rw[if_pos h2,h2,Nat.sub_self];rfl
  ·rw[if_neg h2]
   obtain⟨d,rfl⟩:∃d,k=p+1+d:=⟨k-p-1,by omega⟩
   rw[show p+1+d-p=d+1 from by omega,List.getElem?_cons_succ,List.getElem?_drop,show p+1+d-1=p+d from by omega]
theorem Qg{ks:List ByteArray}(h:Asc ks){i j:Nat}(hij:i<j)(hj:j<ks.length):dP (ks.getD i ⟨#[]⟩) (ks.getD j ⟨#[]⟩)=true:=by
 rw[getD_at (by omega),getD_at hj];exact h i j (by omega) hj hij
theorem J3{ks:List ByteArray}(h:Asc ks){key:ByteArray}(hn:key∉ks):Asc (dO ks (bQ ks key) key):=by
 obtain⟨p1,p2⟩:=Me ks key
 have hp:=kS ks key
 generalize bQ ks key=p at*
 have hlen:=bW ks p key hp
 have up:∀m,p<=m->m<ks.length->dP key (ks.getD m ⟨#[]⟩)=true:=λm h1 h2=>by
  have h3:dP key (ks[p]'(by omega))=true:=Ut (p2 (by omega)) (λe=>hn (e▸List.getElem_mem _))
  by_cases e:m=p
  ·subst e;rw[getD_at h2];exact h3
  ·rw[getD_at h2];exact yo h3 (h p m (by omega) h2 (by omega))
 intro i j hi hj hij
 rw[<-getD_at (z:=⟨#[]⟩) hi,<-getD_at (z:=⟨#[]⟩) hj,mr _ _ _ _ hp,mr _ _ _ _ hp]
 by_cases a1:i<p
 ·rw[if_pos a1]
  by_cases b1:j<p
  ·rw[if_pos b1];exact Qg h hij (by omega)
  ·rw[if_neg b1]
   by_cases b2:j=p
   ·rw[if_pos b2,getD_at (by omega)];exact p1 i _ a1
   ·rw[if_neg b2];exact Qg h (by omega) (by omega)
 ·rw[if_neg a1,if_neg (by omega:¬j<p),if_neg (by omega:¬j=p)]
  by_cases a2:i=p
  ·rw[if_pos a2];exact up _ (by omega) (by omega)
  ·rw[if_neg a2];exact Qg h (by omega) (by omega)
theorem Yt{ks:List ByteArray}(h:Asc ks)(i:Nat):Asc (cutAt ks i)/\∀s∈cutAt ks i,s∈ks:=by
 have hm:∀s∈cutAt ks i,s∈ks:=λs hs=>by
  unfold cutAt at hs
  rcases List.mem_append.1 hs with h|h
  ·exact List.mem_of_mem_take h
  ·exact List.mem_of_mem_drop h
 refine⟨λa b ha hb hab=>?_,hm⟩
 by_cases hi:i<ks.length
 ·have hl:=kR hi
  have e:∀k (hk:k<(cutAt ks i).length),(cutAt ks i)[k]=ks.getD (if k<i then k else k+1) ⟨#[]⟩:=λk hk=>by
   rw[<-getD_at (z:=⟨#[]⟩) hk]
   unfold cutAt
   simp only[List.getD]
   by_cases h1:k<i
   ·rw[if_pos h1,List.getElem?_append_left (by rw[List.length_take];omega),List.getElem?_take,if_pos h1]
   ·rw[if_neg h1,List.getElem?_append_right (by rw[List.length_take];omega),List.length_take,Nat.min_eq_left (by omega),List.getElem?_drop,show i+1+(k-i)=k+1 from by omega]
  rw[e a ha,e b hb]
  refine Qg h ?_ ?_
  ·split<;>split<;>omega
  ·split<;>omega
 ·have e:cutAt ks i=ks:=by unfold cutAt;rw[List.take_of_length_le (by omega),List.drop_eq_nil_of_le (by omega),List.append_nil]
  simp only[e] at ha hb⊢
  exact h a b ha hb hab
theorem OX{ks:List ByteArray}(h:Asc ks){i:Nat}(hi:i<ks.length):ks[i]∉cutAt ks i:=λhm=>by
 unfold cutAt at hm
 rcases List.mem_append.1 hm with h1|h1
 ·obtain⟨j,hj,e⟩:=List.getElem_of_mem h1
  rw[List.length_take] at hj
  rw[List.getElem_take] at e
  have:=JU h (by omega) hi e;omega
 ·obtain⟨j,hj,e⟩:=List.getElem_of_mem h1
  rw[List.length_drop] at hj
  rw[List.getElem_drop] at e
  have:=JU h (by omega) hi e;omega
section
variable {n:Int} {t:ByteArray} {ks:List ByteArray} {vs:List V}
theorem wy(hl:ks.length=vs.length)(key:ByteArray):pl (.mk 5 n t ks vs) key=cz ks key:=by
 unfold pl
 rw[vk,if_pos U,yC,yD]
 cases h:cz ks key with
 |none=>rfl
 |some i=>
  have:=l8 h
  simp only
  rw[if_pos (by omega)]
theorem EU(hl:ks.length=vs.length):cutV (.mk 5 n t ks vs)=.mk 5 n t ks vs:=by
 rw[VY]
 simp only[vk,vn,vt,yC,yD]
 rw[hl,Nat.min_self,<-hl,List.take_length,hl,List.take_length]
theorem A8(hl:ks.length=vs.length){key:ByteArray}{i:Nat}(h:cz ks key=some i)(y:V):bH (.mk 5 n t ks vs) key y=.mk 5 n t ks (vs.set i y):=by
 have e:eP (.mk 5 n t ks vs)=.mk 5 n t ks vs:=rfl
 unfold bH
 rw[e,wy hl,h,EU hl]
 rfl
theorem A9(hl:ks.length=vs.length){key:ByteArray}(h:cz ks key=none)(y:V):bH (.mk 5 n t ks vs) key y=.mk 5 n t (dO ks (bQ ks key) key) (dO vs (bQ ks key) y):=by
 have e:eP (.mk 5 n t ks vs)=.mk 5 n t ks vs:=rfl
 unfold bH
 rw[e,wy hl,h,EU hl]
 rfl
theorem get_some(hl:ks.length=vs.length){key:ByteArray}{i:Nat}(h:cz ks key=some i):aI (.mk 5 n t ks vs) key=(vs.getD i zeroV,true):=by
 unfold aI;rw[wy hl,h];rfl
theorem get_none(hl:ks.length=vs.length){key:ByteArray}(h:cz ks key=none):aI (.mk 5 n t ks vs) key=(zeroV,false):=by
 unfold aI;rw[wy hl,h]
theorem Qh(hl:ks.length=vs.length){key:ByteArray}{i:Nat}(h:cz ks key=some i):bC (.mk 5 n t ks vs) key=.mk 5 n t (cutAt ks i) (cutAt vs i):=by
 unfold bC;rw[wy hl,h,EU hl];rfl
theorem Qi(hl:ks.length=vs.length){key:ByteArray}(h:cz ks key=none):bC (.mk 5 n t ks vs) key=.mk 5 n t ks vs:=by
 unfold bC;rw[wy hl,h]
theorem Ba{key:ByteArray}{i:Nat}(h:cz ks key=some i)(hi:i<ks.length):ks[i]=key:=by
 have:=GA h
 rw[List.getElem?_eq_getElem hi] at this
 exact Option.some.inj this
theorem Yu(ha:Asc ks){key:ByteArray}(h:cz ks key=none):cz (dO ks (bQ ks key) key) key=some (bQ ks key):=by
 have hp:=kS ks key
 have hlen:=bW ks (bQ ks key) key hp
 have hi:bQ ks key<(dO ks (bQ ks key) key).length:=by omega
 have e:(dO ks (bQ ks key) key)[bQ ks key]=key:=by
  rw[<-getD_at (z:=⟨#[]⟩) hi,mr _ _ _ _ hp,if_neg (by omega),if_pos U]
 have:=yu (J3 ha (pF h)) hi
 rw[e] at this;exact this
theorem jO(hl:ks.length=vs.length)(ha:Asc ks)(key:ByteArray)(y:V):aI (bH (.mk 5 n t ks vs) key y) key=(y,true):=by
 cases h:cz ks key with
 |some i=>
  have hi:=l8 h
  rw[A8 hl h,get_some (by rw[List.length_set];exact hl) h,getD_at (by rw[List.length_set];omega),List.getElem_set_self]
 |none=>
  have hp:=kS ks key
  rw[A9 hl h,get_some (by rw[bW _ _ _ hp,bW _ _ _ (by omega)];omega) (Yu ha h),mr _ _ _ _ (by omega),if_neg (by omega),if_pos U]
theorem jy(hl:ks.length=vs.length)(ha:Asc ks)(key other:ByteArray)(hne:other≠key)(y:V):aI (bH (.mk 5 n t ks vs) key y) other=aI (.mk 5 n t ks vs) other:=by
 cases h:cz ks key with
 |some i=>
  have hi:=l8 h
  rw[A8 hl h]
  cases ho:cz ks other with
  |none=>rw[get_none (by rw[List.length_set];exact hl) ho,get_none hl ho]
  |some j=>
   have hj:=l8 ho
   have hij:i≠j:=λe=>by
    subst e
    exact hne ((Ba ho hj).symm.trans (Ba h hi))
   rw[get_some (by rw[List.length_set];exact hl) ho,get_some hl ho,getD_at (by rw[List.length_set];omega),List.getElem_set_ne hij,getD_at (by omega)]
 |none=>
  have hp:=kS ks key
  have hl2:(dO ks (bQ ks key) key).length=(dO vs (bQ ks key) y).length:=by rw[bW _ _ _ hp,bW _ _ _ (by omega)];omega
  have hasc:=J3 ha (pF h)
  rw[A9 hl h]
  cases ho:cz ks other with
  |none=>
   have:cz (dO ks (bQ ks key) key) other=none:=EO λhm=>by
    rcases qX hm with h1|h1
    ·exact pF ho h1
    ·exact hne h1
   rw[get_none hl2 this,get_none hl ho]
  |some j=>
   have hj:=l8 ho
   have hkj:=Ba ho hj
   generalize bQ ks key=p at*
   have hlen:=bW ks p key hp
   have hi:(if j<p then j else j+1)<(dO ks p key).length:=by split<;>omega
   have e:(dO ks p key)[if j<p then j else j+1]=other:=by
    rw[<-getD_at (z:=⟨#[]⟩) hi,mr _ _ _ _ hp]
    by_cases h1:j<p
    ·rw[if_pos h1,if_pos h1,getD_at hj];exact hkj
    ·rw[if_neg h1,if_neg (by omega),if_neg (by omega),Nat.add_sub_cancel,getD_at hj];exact hkj
   have hk:=yu hasc hi
   rw[e] at hk
   rw[get_some hl2 hk,get_some hl ho,mr _ _ _ _ (by omega)]
   congr 1
   by_cases h1:j<p
   ·rw[if_pos h1,if_pos h1]
   ·rw[if_neg h1,if_neg (by omega),if_neg (by omega),Nat.add_sub_cancel]
theorem Qj(hl:ks.length=vs.length)(ha:Asc ks)(key:ByteArray):∃ks' vs',bC (.mk 5 n t ks vs) key=.mk 5 n t ks' vs'/\ks'.length=vs'.length/\Asc ks'/\cz ks' key=none/\(∀s∈ks',s∈ks)/\∀v∈vs',v∈vs:=by
 cases h:cz ks key with
 |some i=>
  have hi:=l8 h
  obtain⟨h1,h2⟩:=Yt ha i
  refine⟨_,_,Qh hl h,by rw[kR hi,kR (by omega)];omega,h1,EO ?_,h2,λv hv=>?_⟩
  ·have:=OX ha hi
   rw[Ba h hi] at this;exact this
  ·unfold cutAt at hv
   rcases List.mem_append.1 hv with h|h
   ·exact List.mem_of_mem_take h
   ·exact List.mem_of_mem_drop h
 |none=>exact⟨_,_,Qi hl h,hl,ha,h,λ_ h=>h,λ_ h=>h⟩
theorem Bb(hl:ks.length=vs.length)(ha:Asc ks)(key:ByteArray)(y:V):∃ks' vs',bH (.mk 5 n t ks vs) key y=.mk 5 n t ks' vs'/\ks'.length=vs'.length/\Asc ks'/\(∀s∈ks',s∈ks\/s=key)/\∀v∈vs',v∈vs\/v=y:=by
 cases h:cz ks key with
 |some i=>exact⟨_,_,A8 hl h y,by rw[List.length_set];exact hl,ha,λ_ h=> .inl h,λv hv=>List.mem_or_eq_of_mem_set hv⟩
 |none=>
  have hp:=kS ks key
  exact⟨_,_,A9 hl h y,by rw[bW _ _ _ hp,bW _ _ _ (by omega)];omega,J3 ha (pF h),λs hs=>qX hs,λv hv=>qX hv⟩
theorem GQ:dG (.mk 5 n t ks vs)=true↔(n=0/\qD 5 t=true/\nC ks=true/\ks.length=vs.length/\mI vs=true):=by
 rw[kI,xY,sQ U,if_neg (by decide),if_neg (by decide)]
 have e:(decide ((5:Int)<4))=false:=by decide
 rw[e]
 simp[Bool.and_eq_true]
 constructor
 ·rintro⟨⟨⟨h1,h2,h3⟩,h4⟩,h5⟩;exact⟨h1,h4,h2,by omega,h5⟩
 ·rintro⟨h1,h4,h2,h3,h5⟩;exact⟨⟨⟨h1,h2,by omega⟩,h4⟩,h5⟩
end
end Go.Proofs.YtonpfomjoiaacaaGreatDoor
end
