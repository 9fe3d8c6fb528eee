/- A part of the proof. -/
import Derived.Test.YtonpfomjoiaacaaGreatDoorMw38
set_option maxRecDepth 100000
set_option maxHeartbeats 4000000
set_option linter.unusedSectionVars false
set_option linter.unusedVariables false
set_option linter.unusedSimpArgs false
section
namespace Go.Proofs.YtonpfomjoiaacaaGreatDoor
open Go Go.iG Go.RowKit
theorem SC{v w:V}{e:EV}(hv:RD w)(hb:vX v e)(hs:D9 e)(h:∀f,f≠aY->(aH w f).1=(aH v f).1\/((aH w f).1.t=⟨#[]⟩/\(aH w f).1.vs=[])):RW w where
 fits:=hv.fits
 dep:=hv.dep
 print:=hv.print
 pr:=hv.pr
 CS:=hv.CS
 prR:=hv.prR
 user:=by
  rcases h bQ (by decide) with e1|e1
  ·rw[e1,hb.sender];exact .inr hs.user
  ·exact .inl e1.1
 room:=by
  rcases h fQ (by decide) with e1|e1
  ·rw[e1,hb.room];exact .inr hs.rm
  ·exact .inl e1.1
 prev:=by
  rcases h fK (by decide) with e1|e1
  ·rw[e1,hb.prev,kM]
   exact⟨λs hm=>⟨by have:=hs.prev.2 s hm;omega,hs.pa s hm⟩,by show(e.prev.map dz).length<=_;rw[List.length_map];have:=hs.prev.1;omega⟩
  ·unfold fC;rw[e1.2]
   exact⟨(λs hm=>by cases hm),by decide⟩
 bL:=by
  rcases h fF (by decide) with e1|e1
  ·rw[e1,hb.bL,kM]
   exact⟨λs hm=>⟨by have:=hs.bL.2 s hm;omega,hs.aa s hm⟩,by show(e.bL.map dz).length<=_;rw[List.length_map];have:=hs.bL.1;omega⟩
  ·unfold fC;rw[e1.2]
   exact⟨(λs hm=>by cases hm),by decide⟩
theorem Rs{e:EV}(hs:D9 e)(key:ByteArray):RW (bq (aL e) key):=
 SC (Ma hs.toSm key) (fD e) hs λf _=>by
  by_cases hf:f=key
  ·subst hf;rw[(lS e).G8];exact .inr ⟨rfl,rfl⟩
  ·rw[(lS e).pz hf];exact .inl U
def o6(i:Int):V:=.mk i 0 ⟨#[]⟩ [] []
theorem Ez(i:Int):Fits (o6 i)/\Wt 10000 (o6 i)/\cZ (o6 i)<=31:=⟨kK _ _ _,.leaf (by decide) (by decide),by have:=gN i 0 ⟨#[]⟩;unfold o6;omega⟩
theorem aa3{e:EV}(hs:D9 e){key:ByteArray}(hk:key.size<=20)(i:Int):RW (dE (aQ (aL e) key (o6 i))):=by
 obtain⟨l1,l2,l3⟩:=Ez i
 obtain⟨r1,r2⟩:=qa hs.toSm hk l1 l2 l3
 refine SC r2 (fD e) hs λf hf=>?_
 rw[show aH (dE (aQ (aL e) key (o6 i))) f=aH (aQ (aL e) key (o6 i)) f from r1.o.bZ hf _]
 by_cases hf2:f=key
 ·subst hf2;rw[(lS e).gY];exact .inr ⟨rfl,rfl⟩
 ·rw[(lS e).bZ hf2];exact .inl U
def Db:List ByteArray:=[dN,bQ,fQ,fK,fF,dU,iK,aO,aY]
theorem Xa(i:Nat)(h:i<9):∃k,(Db.getD i ⟨#[]⟩,k)∈oG:=by
 have h1:Db=oG.map (·.1):=rfl
 have h2:i<oG.length:=h
 refine⟨(oG.getD i (⟨#[]⟩,0)).2,?_⟩
 rw[h1,getD_at (by rw[List.length_map];exact h2),List.getElem_map,getD_at h2]
 exact List.getElem_mem h2
theorem Ih{c:List Int}(hc:wy c)(k:Int):((dx c k).is=false->(dx c k).key=⟨#[]⟩)/\(dx c k).key.size<=80:=by
 constructor
 ·intro h
  have h2:¬(c.getD 0 0).tmod 5<3:=of_decide_eq_false h
  show(if (c.getD 0 0).tmod 5<3 then Hu.getD ((c.getD 0 0).tmod 5).toNat ⟨#[]⟩ else⟨#[]⟩:ByteArray)=_
  rw[if_neg h2]
 ·show(if _ then _ else _:ByteArray).size<=80
  split
  ·exact lK C8 _
  ·decide
theorem Rt(c:List Int)(k at_:Int)(hc:wy c)(hk0:0<=k)(hk1:k<=255)(ha0:0<=at_)(ha1:at_<=255)(H:Hp)(hG:fA H):au Tryz.prog 3 [yM c,.v (.int .u8 k),.v (.int .u8 at_)] H (bB H (.v (.bool true))):=by
 have ev:=λH=>vP c hc k hk0 (by omega) H
 obtain⟨hs,hf⟩:=vF hc k hk0 (by omega:k<256)
 have hkey:=(Ih hc k).1
 generalize dx c k=e at*
 have nm:=λH h=>xJ e hs.toSm H h
 have hsx:D9 {e with id:=oI (aL e)}:=WY hs _
 have mk:∀H,au Tryz.prog 14 [.agg (gZ {e with id:=oI (aL e)})] H (bB H (.agg (aC (aL e)))):=λH=>qX _ hsx.toSm H
 have hcl:{nS e with id:=oI (aL e)}={e with id:=oI (aL e)}:=by
  obtain⟨i,t,k,is,s,r,p,a,d,m,b⟩:=e
  simp only at hkey
  cases is with
  |true=>rfl
  |false=>rw[hkey U];rfl
 have m0:=Int.tmod_nonneg 9 ha0
 have m1:=Int.tmod_lt_of_pos at_ (by decide:(0:Int)<9)
 obtain⟨kk,hkk⟩:=Xa (at_.tmod 9).toNat (by omega)
 have Ij:=l8 Db (at_.tmod 9).toNat (by show _<9;omega)
 generalize Db.getD (at_.tmod 9).toNat ⟨#[]⟩=key at*
 have wo:∀H,au Tryz.prog 16 [.agg (aC (aL e)),.v (.string key)] H (bB H (.agg (aC (bq (aL e) key)))):=λH=>nX _ hs.make.fits key H
 have r4:=λH h=>iO _ (Rs hs key) H h
 rw[L9 (lS e) hkk] at r4
 obtain⟨x1,x2⟩:=qa hs.toSm (key:=jd) (by decide) one_num.1 one_num.2.1 one_num.2.2
 obtain⟨y1,y2⟩:=Ri hs hf
 have wx:∀H,au Tryz.prog 18 [.agg (aC (aL e)),.v (.string jd),.agg (aC (fu 1))] H (bB H (.agg (aC (aQ (aL e) jd (fu 1))))):=λH=>jb _ hs.make.fits hs.make.ev.keys jd (fu 1) H
 have sx:=λH=>vE _ x1.fits x1.ev.keys x1.CS H
 have hb:=(fD e).with (lS e) (key:=jd) (by kernel_rfl) (fu 1)
 have r5:=λH h=>iO _ (pG x2 (hb.qR x1.o) hs).rw H h
 have r7:=λH h=>iO _ (pG x1 hb hs).rw H h
 have h81:=λH=>zZ _ x1.fits x1.CS H
 have h83:=λH=>zZ _ hs.make.fits hs.make.CS H
 rw[y1] at r5
 rw[y2] at r7
 obtain⟨u1,_⟩:=qa hs.toSm (key:=cz) (by decide) one_num.1 one_num.2.1 one_num.2.2
 obtain⟨z1,_,_⟩:=Iu hs hf
 have wu:∀H,au Tryz.prog 18 [.agg (aC (aL e)),.v (.string cz),.agg (aC (fu 1))] H (bB H (.agg (aC (aQ (aL e) cz (fu 1))))):=λH=>jb _ hs.make.fits hs.make.ev.keys cz (fu 1) H
 have r8:=λH h=>iO _ (pG u1 ((fD e).with (lS e) (key:=cz) (by kernel_rfl) (fu 1)) hs).rw H h
 rw[z1,hcl] at r8
 have hy:{({nS e with id:=oI (dE (aQ (aL e) jd (fu 1)))}:EV) with id:=oI (aL e)}={e with id:=oI (aL e)}:=hcl
 have sm:=λH=>DT hs.toSm (oI (aL e)) H
 clear hkk hkey hcl hf y1 y2 z1 hb hsx x1 x2 u1
 generalize bq (aL e) key=vw at*
 generalize ed (aQ (aL e) jd (fu 1))=g1 at*
 generalize ed (aL e)=g2 at*
 generalize oI (dE (aQ (aL e) jd (fu 1)))=i1 at*
 generalize dE (aQ (aL e) jd (fu 1))=vs at*
 generalize oI (aQ (aL e) jd (fu 1))=i2 at*
 generalize aQ (aL e) jd (fu 1)=vx at*
 generalize aQ (aL e) cz (fu 1)=vu at*
 generalize oI (aL e)=i0 at*
 generalize aL e=v at*
 generalize nS e=ce at*
 clear hs
 generalize zeroE=z at*
 obtain⟨xi,xt,xk,xs,xu,xr,xp,xa,xd,xm,xb⟩:=e
 obtain⟨ci,ct,ck,cs,cu,cr,cp,ca,cd,cm,cb⟩:=ce
 simp only[EV.mk.injEq] at hy
 obtain⟨_,rfl,rfl,rfl,rfl,rfl,rfl,rfl,rfl,rfl,rfl⟩:=hy
 obtain⟨zi,zt,zk,zs,zu,zr,zp,za,zd,zm,zb⟩:=z
 obtain⟨v0,v1,v2,v3,v4⟩:=v
 obtain⟨w0,w1,w2,w3,w4⟩:=vw
 obtain⟨s0,s1,s2,s3,s4⟩:=vs
 obtain⟨q0,q1,q2,q3,q4⟩:=vx
 obtain⟨u0,u1,u2,u3,u4⟩:=vu
 obtain⟨b0,b1,b2,b3,b4⟩:=cb
 obtain⟨c0,c1,c2,c3,c4⟩:=zb
 simp only at nm mk r4 r5 r8 sm
 by_cases hgg:g1.toList=g2.toList
 ·rw[if_pos hgg] at r7
  simp only at r7
  refine aF (n:=104) (H0:=H) (I:=[]) Tryz.func3 (by kernel_rfl) U (by rw[Tryz.ntmps3];rfl) .nil<|?_
  refine Q.rg<|Q.as U<|Q.nt<|Q.rg<|S.qu (Z.eq (u':=strs Db) (Z.bl dQ U U (bz U)) U)<|Q.as U<|Q.nt<|Q.rg<|Q.mv U<|Q.mv U<|S.qu (Z.call U U (λH=>ev H))<|S.qu (Z.bK U U (λ_ hS=>nm _ (hG.mono hS)))<|S.dd<|D.al z28 U U U λp8=>S.s<|D.st 0 di U U U U U U U U λ_=>Q.nt<|Q.rg<|S.qu (Z.bW 0 di U U U)<|S.qu (Z.call U U (λH=>mk H))<|S.dd<|D.al z26 U U U λp9=>S.s<|D.st 0 av U U U U U U U U λ_=>Q.nt<|S.sq<|?_
  refine' UW.rO (by kernel_rfl) [0,1] [0,0,0,4,14,30,63,127,255,511,511,0,3071,8191] [some 27,some 28,some 29,some 30,some 31,some 32,some 33,some 34,some 26,some 35,some 36,none,none,none] [some (27,_),some (28,_),some (29,_),some (30,_),some (31,_),some (32,_),some (33,_),some (34,_),some (26,_),some (35,_),some (36,_),none,none,none] [11,12,13] [] U (by decide) (by decide) (M.kept (by decide) U U ?uV (M.free (by decide) U U ?qF (M.free (by decide) U U ?qG (M.free (by decide) U U ?vJ (M.free (by decide) U U ?Ac (M.kept (by decide) U U ?vK (M.free (by decide) U U ?vL (M.free (by decide) U U ?Ad (M.free (by decide) U U ?vM (M.free (by decide) U U ?vN (M.free (by decide) U U ?vO (M.skip (M.skip (M.skip M.nil)))))))))))))) ?Gi
  case uV=>(intro _ hK;exact Z.kw 0 hK av rfl rfl rfl)
  case qF=>(intro _;exact Z.mv rfl)
  case qG=>(intro _;exact Z.mv rfl)
  case vJ=>(intro _;exact Z.bi rfl rfl rfl)
  case Ac=>(intro _;exact Z.ia aZ rfl rfl (by omega) Ij (by rfl))
  case vK=>(intro _ hK;exact Z.fO dW rfl)
  case vL=>(intro _;exact Z.call rfl rfl (λH=>wo H))
  case Ad=>(intro _;exact Z.bK rfl rfl (λ_ hS=>r4 _ (hG.mono hS)))
  case vM=>(intro _;exact Z.mv rfl)
  case vN=>(intro _;exact Z.ex rfl rfl)
  case vO=>(intro _;exact Z.ex rfl rfl)
  refine CH.cons U U (by decide) ?_ (.c 0 U (.c 1 U .n))
  refine D.al z28 U U U λTt=>?_
  refine CH.bX U U ?_ (.c 1 U (.c 2 U .n))
  refine D.st 0 di U U U U U U U U λ_=>?_
  refine CH.cons U U (by decide) ?_ (.c 1 U (.c 2 U .n))
  refine D.qu (Z.as U)<|?_
  refine CH.nil ?_ (.c 1 U (.c 2 U .n))
  simp only[app,bS]
  refine UQ.then<|S.sq<|?_
  refine' UW.rO (by kernel_rfl) [1] [0,0,3,7,15,31,63,63,0,383,1023] [some 38,some 39,some 40,some 41,some 42,some 37,some 43,some 44,none,none,none] [some (38,_),some (39,_),some (40,_),some (41,_),some (42,_),some (37,_),some (43,_),some (44,_),none,none,none] [8,9,10] [] U (by decide) (by decide) (M.kept (by decide) U U ?q0x1_0 (M.free (by decide) U U ?q0x1_1 (M.free (by decide) U U ?q0x1_2 (M.free (by decide) U U ?q0x1_3 (M.free (by decide) U U ?q0x1_4 (M.free (by decide) U U ?q0x1_5 (M.free (by decide) U U ?q0x1_6 (M.free (by decide) U U ?q0x1_7 (M.skip (M.skip (M.skip M.nil))))))))))) ?q0x1_k
  case q0x1_0=>(intro _ hK;exact Z.kw 0 hK av rfl rfl rfl)
  case q0x1_1=>(intro _;exact Z.call rfl rfl (λH=>gJ 1 H))
  case q0x1_2=>(intro _;exact Z.call rfl rfl (λH=>wx H))
  case q0x1_3=>(intro _;exact Z.call rfl rfl (λH=>sx H))
  case q0x1_4=>(intro _;exact Z.bK rfl rfl (λ_ hS=>r5 _ (hG.mono hS)))
  case q0x1_5=>(intro _;exact Z.mv rfl)
  case q0x1_6=>(intro _;exact Z.ex rfl rfl)
  case q0x1_7=>(intro _;exact Z.ex rfl rfl)
  refine CH.cons U U (by decide) ?_ (.c 1 U .n)
  refine D.al z28 U U U λp12=>?_
  refine CH.bX U U ?_ (.c 2 U .n)
  refine D.st 0 di U U U U U U U U λ_=>?_
  refine CH.cons U U (by decide) ?_ (.c 2 U .n)
  refine D.qu (Z.as U)<|?_
  refine CH.nil ?_ (.c 2 U .n)
  simp only[app,bS]
  refine UQ.then<|S.sq<|?_
  refine' UW.rO (by kernel_rfl) [2] [0,0,3,0,15] [some 45,some 46,some 47,none,none] [some (45,_),some (46,_),some (47,_),none,none] [3,4] [] U (by decide) (by decide) (M.kept (by decide) U U ?q0x2_0 (M.free (by decide) U U ?q0x2_1 (M.free (by decide) U U ?q0x2_2 (M.skip (M.skip M.nil))))) ?q0x2_k
  case q0x2_0=>(intro _ hK;exact Z.kw 0 hK av rfl rfl rfl)
  case q0x2_1=>(intro _;exact Z.call rfl rfl (λH=>gJ 1 H))
  case q0x2_2=>(intro _;exact Z.call rfl rfl (λH=>wx H))
  refine CH.cons U U (by decide) ?_ (.c 2 U .n)
  refine D.al z26 U U U λMx=>?_
  refine CH.bX U U ?_ (.c 3 U .n)
  refine D.st 0 av U U U U U U U U λ_=>?_
  refine CH.nil ?_ (.c 3 U .n)
  simp only[app,bS]
  refine UQ.then<|Q.rg<|S.qu (Z.bW 0 av U U U)<|S.qu (Z.bK U U (λ_ hS=>r7 _ (hG.mono hS)))<|Q.mv U<|S.qu (Z.ex U U)<|S.qu (Z.ex U U)<|S.dd<|D.al z28 U U U λp15=>S.s<|D.st 0 di U U U U U U U U λ_=>Q.as U<|Q.nt<|S.sq<|?_
  refine' UW.rO (by kernel_rfl) [4] [0,0,3,7,15,31,31,0,191,511] [some 54,some 55,some 56,some 57,some 53,some 58,some 59,none,none,none] [some (54,_),some (55,_),some (56,_),some (57,_),some (53,_),some (58,_),some (59,_),none,none,none] [7,8,9] [] U (by decide) (by decide) (M.kept (by decide) U U ?q0x3_0 (M.free (by decide) U U ?q0x3_1 (M.free (by decide) U U ?q0x3_2 (M.free (by decide) U U ?q0x3_3 (M.free (by decide) U U ?q0x3_4 (M.free (by decide) U U ?q0x3_5 (M.free (by decide) U U ?q0x3_6 (M.skip (M.skip (M.skip M.nil)))))))))) ?q0x3_k
  case q0x3_0=>(intro _ hK;exact Z.kw 0 hK av rfl rfl rfl)
  case q0x3_1=>(intro _;exact Z.call rfl rfl (λH=>gJ 1 H))
  case q0x3_2=>(intro _;exact Z.call rfl rfl (λH=>wu H))
  case q0x3_3=>(intro _;exact Z.bK rfl rfl (λ_ hS=>r8 _ (hG.mono hS)))
  case q0x3_4=>(intro _;exact Z.mv rfl)
  case q0x3_5=>(intro _;exact Z.ex rfl rfl)
  case q0x3_6=>(intro _;exact Z.ex rfl rfl)
  refine CH.cons U U (by decide) ?_ (.c 4 U .n)
  refine D.al z28 U U U λp17=>?_
  refine CH.bX U U ?_ (.c 5 U .n)
  refine D.st 0 di U U U U U U U U λ_=>?_
  refine CH.cons U U (by decide) ?_ (.c 5 U .n)
  refine D.qu (Z.as U)<|?_
  refine CH.nil ?_ (.c 5 U .n)
  simp only[app,bS]
  refine UQ.then<|Q.rg<|Q.fa su U<|Q.lc 6 dW U U U<|Q.fa su U<|S.s<|D.st 3 dW U U U U U U U U λ_=>Q.nt<|S.sq<|?_
  refine' UW.bG (by kernel_rfl) [0,1,3,7,15,31,63,127,255,511,1023,1023,4095,8191,16383,32767,65535,32767,163839,32767,950271,1998847,4194303,8388607,16777215,33554431,67108863,134217727,268435455,536870911,1073741823,2147483647,4294967295,8589934591,17179869183,34359738367,68719476735,137438953471,137438953471,549755813887,1099511627775,2199023255551] [some 63,some 64,some 65,some 66,some 67,some 68,some 69,some 70,some 71,some 72,some 73,some 74,some 75,some 76,some 77,some 78,some 79,some 80,some 81,some 82,some 83,some 84,some 85,some 86,some 87,some 88,some 89,some 90,some 91,some 92,some 93,some 94,some 95,some 96,some 97,some 98,some 99,some 100,some 101,some 102,some 103,some 6] [some (63,_),some (64,_),some (65,_),some (66,_),some (67,_),some (68,_),some (69,_),some (70,_),some (71,_),some (72,_),some (73,_),some (74,_),some (75,_),some (76,_),some (77,_),some (78,_),some (79,_),some (80,_),some (81,_),some (82,_),some (83,_),some (84,_),some (85,_),some (86,_),some (87,_),some (88,_),some (89,_),some (90,_),some (91,_),some (92,_),some (93,_),some (94,_),some (95,_),some (96,_),some (97,_),some (98,_),some (99,_),some (100,_),some (101,_),some (102,_),some (103,_),some (6,_)] [] [10,11,17,19,37,38] U (by decide) (by decide) (M.free (by decide) U U ?q0x4_0 (M.free (by decide) U U ?q0x4_1 (M.free (by decide) U U ?q0x4_2 (M.free (by decide) U U ?q0x4_3 (M.free (by decide) U U ?q0x4_4 (M.free (by decide) U U ?q0x4_5 (M.free (by decide) U U ?q0x4_6 (M.free (by decide) U U ?q0x4_7 (M.free (by decide) U U ?q0x4_8 (M.free (by decide) U U ?q0x4_9 (M.held (by decide) U U ?aa4 (M.held (by decide) U U ?aa5 (M.free (by decide) U U ?aa6 (M.free (by decide) U U ?aa7 (M.free (by decide) U U ?aa8 (M.free (by decide) U U ?aa9 (M.free (by decide) U U ?aba (M.held (by decide) U U ?abb (M.free (by decide) U U ?abd (M.held (by decide) U U ?abe (M.free (by decide) U U ?abf (M.free (by decide) U U ?abg (M.free (by decide) U U ?abh (M.free (by decide) U U ?abj (M.free (by decide) U U ?abk (M.free (by decide) U U ?abl (M.free (by decide) U U ?abm (M.free (by decide) U U ?abn (M.free (by decide) U U ?abo (M.free (by decide) U U ?abp (M.free (by decide) U U ?abq (M.free (by decide) U U ?abr (M.free (by decide) U U ?abt (M.free (by decide) U U ?abu (M.free (by decide) U U ?abv (M.free (by decide) U U ?abw (M.free (by decide) U U ?abx (M.held (by decide) U U ?aby (M.held (by decide) U U ?abz (M.free (by decide) U U ?abA (M.free (by decide) U U ?abB (M.free (by decide) U U ?abC M.nil)))))))))))))))))))))))))))))))))))))))))) ?q0x4_k
  case q0x4_0=>(intro _;exact Z.bK rfl rfl (λ_ hS=>ig _ (hG.mono hS)))
  case q0x4_1=>(intro _;exact Z.mv rfl)
  case q0x4_2=>(intro _;exact Z.on (Z.mv rfl))
  case q0x4_3=>(intro _;exact Z.on (Z.tT (Z.bi rfl rfl rfl) (decide_eq_true (by omega))))
  case q0x4_4=>(intro _;exact Z.pick rfl rfl)
  case q0x4_5=>(intro _;exact Z.mv rfl)
  case q0x4_6=>(intro _;exact Z.on (Z.mv rfl))
  case q0x4_7=>(intro _;exact Z.on (Z.tT (Z.bi rfl rfl rfl) (decide_eq_true (by omega))))
  case q0x4_8=>(intro _;exact Z.pick rfl rfl)
  case q0x4_9=>(intro _;exact Z.mv rfl)
  case aa4=>exact Z.on (Z.bW 6 di rfl rfl rfl)
  case aa5=>exact Z.on (Z.bW 3 di rfl rfl rfl)
  case aa6=>(intro _;exact Z.on (Z.call rfl rfl (λH=>sm H)))
  case aa7=>(intro _;exact Z.pick rfl rfl)
  case aa8=>(intro _;exact Z.mv rfl)
  case aa9=>(intro _;exact Z.on (Z.mv rfl))
  case aba=>(intro _;exact Z.on (Z.tF (Z.bi rfl rfl rfl) (decide_eq_false (by omega))))
  case abb=>exact Z.on (Z.bW 2 av rfl rfl rfl)
  case abd=>(intro _;exact Z.on (Z.call rfl rfl (λH=>h81 H)))
  case abe=>exact Z.on (Z.bW 5 av rfl rfl rfl)
  case abf=>(intro _;exact Z.on (Z.call rfl rfl (λH=>h83 H)))
  case abg=>(intro _;exact Z.on (Z.tF (Z.bs rfl rfl rfl) (mJ (by omega))))
  case abh=>(intro _;exact Z.on (Z.beq Tryz.underlying4 rfl rfl))
  case abj=>(intro _;exact Z.pick rfl rfl)
  case abk=>(intro _;exact Z.mv rfl)
  case abl=>(intro _;exact Z.on (Z.mv rfl))
  case abm=>(intro _;exact Z.on (Z.tF (Z.bi rfl rfl rfl) (decide_eq_false (by omega))))
  case abn=>(intro _;exact Z.on (Z.mv rfl))
  case abo=>(intro _;exact Z.on (Z.mv rfl))
  case abp=>(intro _;exact Z.on (Z.tT (Z.bi rfl rfl rfl) (decide_eq_true (by omega))))
  case abq=>(intro _;exact Z.on (Z.pick rfl rfl))
  case abr=>(intro _;exact Z.pick rfl rfl)
  case abt=>(intro _;exact Z.mv rfl)
  case abu=>(intro _;exact Z.on (Z.mv rfl))
  case abv=>(intro _;exact Z.on (Z.tT (Z.bi rfl rfl rfl) (decide_eq_true (by omega))))
  case abw=>(intro _;exact Z.pick rfl rfl)
  case abx=>(intro _;exact Z.mv rfl)
  case aby=>exact Z.on (Z.bW 0 di rfl rfl rfl)
  case abz=>exact Z.on (Z.bW 6 di rfl rfl rfl)
  case abA=>(intro _;exact Z.on (Z.call rfl rfl (λH=>sm H)))
  case abB=>(intro _;exact Z.pick rfl rfl)
  case abC=>(intro _;exact Z.as rfl)
  refine CH.nil<|?_
  simp only[app,bS]
  refine UQ.then<|UW.ret<|S.bH (λ_=>ak U U)<|?_
  rfl
 ·rw[if_neg hgg] at r7
  simp only at r7
  refine aF (n:=104) (H0:=H) (I:=[]) Tryz.func3 (by kernel_rfl) U (by rw[Tryz.ntmps3];rfl) .nil<|?_
  refine Q.rg<|Q.as U<|Q.nt<|Q.rg<|S.qu (Z.eq (u':=strs Db) (Z.bl dQ U U (bz U)) U)<|Q.as U<|Q.nt<|Q.rg<|Q.mv U<|Q.mv U<|S.qu (Z.call U U (λH=>ev H))<|S.qu (Z.bK U U (λ_ hS=>nm _ (hG.mono hS)))<|S.dd<|D.al z28 U U U λp8=>S.s<|D.st 0 di U U U U U U U U λ_=>Q.nt<|Q.rg<|S.qu (Z.bW 0 di U U U)<|S.qu (Z.call U U (λH=>mk H))<|S.dd<|D.al z26 U U U λp9=>S.s<|D.st 0 av U U U U U U U U λ_=>Q.nt<|S.sq<|?_
  refine' UW.rO (by kernel_rfl) [0,1] [0,0,0,4,14,30,63,127,255,511,511,0,3071,8191] [some 27,some 28,some 29,some 30,some 31,some 32,some 33,some 34,some 26,some 35,some 36,none,none,none] [some (27,_),some (28,_),some (29,_),some (30,_),some (31,_),some (32,_),some (33,_),some (34,_),some (26,_),some (35,_),some (36,_),none,none,none] [11,12,13] [] U (by decide) (by decide) (M.kept (by decide) U U ?iU (M.free (by decide) U U ?iV (M.free (by decide) U U ?iW (M.free (by decide) U U ?iX (M.free (by decide) U U ?iY (M.kept (by decide) U U ?iZ (M.free (by decide) U U ?ja (M.free (by decide) U U ?kH (M.free (by decide) U U ?nL (M.free (by decide) U U ?qB (M.free (by decide) U U ?mK (M.skip (M.skip (M.skip M.nil)))))))))))))) ?sI
  case iU=>(intro _ hK;exact Z.kw 0 hK av rfl rfl rfl)
  case iV=>(intro _;exact Z.mv rfl)
  case iW=>(intro _;exact Z.mv rfl)
  case iX=>(intro _;exact Z.bi rfl rfl rfl)
  case iY=>(intro _;exact Z.ia aZ rfl rfl (by omega) Ij (by rfl))
  case iZ=>(intro _ hK;exact Z.fO dW rfl)
  case ja=>(intro _;exact Z.call rfl rfl (λH=>wo H))
  case kH=>(intro _;exact Z.bK rfl rfl (λ_ hS=>r4 _ (hG.mono hS)))
  case nL=>(intro _;exact Z.mv rfl)
  case qB=>(intro _;exact Z.ex rfl rfl)
  case mK=>(intro _;exact Z.ex rfl rfl)
  refine CH.cons U U (by decide) ?_ (.c 0 U (.c 1 U .n))
  refine D.al z28 U U U λTt=>?_
  refine CH.bX U U ?_ (.c 1 U (.c 2 U .n))
  refine D.st 0 di U U U U U U U U λ_=>?_
  refine CH.cons U U (by decide) ?_ (.c 1 U (.c 2 U .n))
  refine D.qu (Z.as U)<|?_
  refine CH.nil ?_ (.c 1 U (.c 2 U .n))
  simp only[app,bS]
  refine UQ.then<|S.sq<|?_
  refine' UW.rO (by kernel_rfl) [1] [0,0,3,7,15,31,63,63,0,383,1023] [some 38,some 39,some 40,some 41,some 42,some 37,some 43,some 44,none,none,none] [some (38,_),some (39,_),some (40,_),some (41,_),some (42,_),some (37,_),some (43,_),some (44,_),none,none,none] [8,9,10] [] U (by decide) (by decide) (M.kept (by decide) U U ?QA (M.free (by decide) U U ?QB (M.free (by decide) U U ?QC (M.free (by decide) U U ?QD (M.free (by decide) U U ?QE (M.free (by decide) U U ?QG (M.free (by decide) U U ?QH (M.free (by decide) U U ?QI (M.skip (M.skip (M.skip M.nil))))))))))) ?q1x1_k
  case QA=>(intro _ hK;exact Z.kw 0 hK av rfl rfl rfl)
  case QB=>(intro _;exact Z.call rfl rfl (λH=>gJ 1 H))
  case QC=>(intro _;exact Z.call rfl rfl (λH=>wx H))
  case QD=>(intro _;exact Z.call rfl rfl (λH=>sx H))
  case QE=>(intro _;exact Z.bK rfl rfl (λ_ hS=>r5 _ (hG.mono hS)))
  case QG=>(intro _;exact Z.mv rfl)
  case QH=>(intro _;exact Z.ex rfl rfl)
  case QI=>(intro _;exact Z.ex rfl rfl)
  refine CH.cons U U (by decide) ?_ (.c 1 U .n)
  refine D.al z28 U U U λp12=>?_
  refine CH.bX U U ?_ (.c 2 U .n)
  refine D.st 0 di U U U U U U U U λ_=>?_
  refine CH.cons U U (by decide) ?_ (.c 2 U .n)
  refine D.qu (Z.as U)<|?_
  refine CH.nil ?_ (.c 2 U .n)
  simp only[app,bS]
  refine UQ.then<|S.sq<|?_
  refine' UW.rO (by kernel_rfl) [2] [0,0,3,0,15] [some 45,some 46,some 47,none,none] [some (45,_),some (46,_),some (47,_),none,none] [3,4] [] U (by decide) (by decide) (M.kept (by decide) U U ?q1x2_0 (M.free (by decide) U U ?q1x2_1 (M.free (by decide) U U ?q1x2_2 (M.skip (M.skip M.nil))))) ?q1x2_k
  case q1x2_0=>(intro _ hK;exact Z.kw 0 hK av rfl rfl rfl)
  case q1x2_1=>(intro _;exact Z.call rfl rfl (λH=>gJ 1 H))
  case q1x2_2=>(intro _;exact Z.call rfl rfl (λH=>wx H))
  refine CH.cons U U (by decide) ?_ (.c 2 U .n)
  refine D.al z26 U U U λMx=>?_
  refine CH.bX U U ?_ (.c 3 U .n)
  refine D.st 0 av U U U U U U U U λ_=>?_
  refine CH.nil ?_ (.c 3 U .n)
  simp only[app,bS]
  refine UQ.then<|Q.rg<|S.qu (Z.bW 0 av U U U)<|S.qu (Z.bK U U (λ_ hS=>r7 _ (hG.mono hS)))<|Q.mv U<|S.qu (Z.ex U U)<|S.qu (Z.ex U U)<|S.dd<|D.al z28 U U U λp15=>S.s<|D.st 0 di U U U U U U U U λ_=>Q.as U<|Q.nt<|S.sq<|?_
  refine' UW.rO (by kernel_rfl) [4] [0,0,3,7,15,31,31,0,191,511] [some 54,some 55,some 56,some 57,some 53,some 58,some 59,none,none,none] [some (54,_),some (55,_),some (56,_),some (57,_),some (53,_),some (58,_),some (59,_),none,none,none] [7,8,9] [] U (by decide) (by decide) (M.kept (by decide) U U ?q1x3_0 (M.free (by decide) U U ?q1x3_1 (M.free (by decide) U U ?q1x3_2 (M.free (by decide) U U ?q1x3_3 (M.free (by decide) U U ?q1x3_4 (M.free (by decide) U U ?q1x3_5 (M.free (by decide) U U ?q1x3_6 (M.skip (M.skip (M.skip M.nil)))))))))) ?q1x3_k
  case q1x3_0=>(intro _ hK;exact Z.kw 0 hK av rfl rfl rfl)
  case q1x3_1=>(intro _;exact Z.call rfl rfl (λH=>gJ 1 H))
  case q1x3_2=>(intro _;exact Z.call rfl rfl (λH=>wu H))
  case q1x3_3=>(intro _;exact Z.bK rfl rfl (λ_ hS=>r8 _ (hG.mono hS)))
  case q1x3_4=>(intro _;exact Z.mv rfl)
  case q1x3_5=>(intro _;exact Z.ex rfl rfl)
  case q1x3_6=>(intro _;exact Z.ex rfl rfl)
  refine CH.cons U U (by decide) ?_ (.c 4 U .n)
  refine D.al z28 U U U λp17=>?_
  refine CH.bX U U ?_ (.c 5 U .n)
  refine D.st 0 di U U U U U U U U λ_=>?_
  refine CH.cons U U (by decide) ?_ (.c 5 U .n)
  refine D.qu (Z.as U)<|?_
  refine CH.nil ?_ (.c 5 U .n)
  simp only[app,bS]
  refine UQ.then<|Q.rg<|Q.fa su U<|Q.lc 6 dW U U U<|Q.fa su U<|S.s<|D.st 3 dW U U U U U U U U λ_=>Q.nt<|S.sq<|?_
  refine' UW.bG (by kernel_rfl) [0,1,3,7,15,31,63,127,255,511,1023,1023,4095,8191,16383,32767,65535,32767,163839,32767,950271,1998847,4194303,8388607,16777215,33554431,67108863,134217727,268435455,536870911,1073741823,2147483647,4294967295,8589934591,17179869183,34359738367,68719476735,137438953471,137438953471,549755813887,1099511627775,2199023255551] [some 63,some 64,some 65,some 66,some 67,some 68,some 69,some 70,some 71,some 72,some 73,some 74,some 75,some 76,some 77,some 78,some 79,some 80,some 81,some 82,some 83,some 84,some 85,some 86,some 87,some 88,some 89,some 90,some 91,some 92,some 93,some 94,some 95,some 96,some 97,some 98,some 99,some 100,some 101,some 102,some 103,some 6] [some (63,_),some (64,_),some (65,_),some (66,_),some (67,_),some (68,_),some (69,_),some (70,_),some (71,_),some (72,_),some (73,_),some (74,_),some (75,_),some (76,_),some (77,_),some (78,_),some (79,_),some (80,_),some (81,_),some (82,_),some (83,_),some (84,_),some (85,_),some (86,_),some (87,_),some (88,_),some (89,_),some (90,_),some (91,_),some (92,_),some (93,_),some (94,_),some (95,_),some (96,_),some (97,_),some (98,_),some (99,_),some (100,_),some (101,_),some (102,_),some (103,_),some (6,_)] [] [10,11,17,19,37,38] U (by decide) (by decide) (M.free (by decide) U U ?q1x4_0 (M.free (by decide) U U ?q1x4_1 (M.free (by decide) U U ?q1x4_2 (M.free (by decide) U U ?q1x4_3 (M.free (by decide) U U ?q1x4_4 (M.free (by decide) U U ?q1x4_5 (M.free (by decide) U U ?q1x4_6 (M.free (by decide) U U ?q1x4_7 (M.free (by decide) U U ?q1x4_8 (M.free (by decide) U U ?q1x4_9 (M.held (by decide) U U ?abD (M.held (by decide) U U ?abE (M.free (by decide) U U ?abF (M.free (by decide) U U ?abG (M.free (by decide) U U ?abH (M.free (by decide) U U ?abI (M.free (by decide) U U ?abJ (M.held (by decide) U U ?abK (M.free (by decide) U U ?abL (M.held (by decide) U U ?abM (M.free (by decide) U U ?abN (M.free (by decide) U U ?abO (M.free (by decide) U U ?abP (M.free (by decide) U U ?abQ (M.free (by decide) U U ?abR (M.free (by decide) U U ?abS (M.free (by decide) U U ?abT (M.free (by decide) U U ?abU (M.free (by decide) U U ?abV (M.free (by decide) U U ?abW (M.free (by decide) U U ?abX (M.free (by decide) U U ?abY (M.free (by decide) U U ?abZ (M.free (by decide) U U ?ab0 (M.free (by decide) U U ?ab1 (M.free (by decide) U U ?ab2 (M.free (by decide) U U ?ab3 (M.held (by decide) U U ?ab4 (M.held (by decide) U U ?ab5 (M.free (by decide) U U ?ab6 (M.free (by decide) U U ?ab7 (M.free (by decide) U U ?ab8 M.nil)))))))))))))))))))))))))))))))))))))))))) ?q1x4_k
  case q1x4_0=>(intro _;exact Z.bK rfl rfl (λ_ hS=>ig _ (hG.mono hS)))
  case q1x4_1=>(intro _;exact Z.mv rfl)
  case q1x4_2=>(intro _;exact Z.on (Z.mv rfl))
  case q1x4_3=>(intro _;exact Z.on (Z.tT (Z.bi rfl rfl rfl) (decide_eq_true (by omega))))
  case q1x4_4=>(intro _;exact Z.pick rfl rfl)
  case q1x4_5=>(intro _;exact Z.mv rfl)
  case q1x4_6=>(intro _;exact Z.on (Z.mv rfl))
  case q1x4_7=>(intro _;exact Z.on (Z.tT (Z.bi rfl rfl rfl) (decide_eq_true (by omega))))
  case q1x4_8=>(intro _;exact Z.pick rfl rfl)
  case q1x4_9=>(intro _;exact Z.mv rfl)
  case abD=>exact Z.on (Z.bW 6 di rfl rfl rfl)
  case abE=>exact Z.on (Z.bW 3 di rfl rfl rfl)
  case abF=>(intro _;exact Z.on (Z.call rfl rfl (λH=>sm H)))
  case abG=>(intro _;exact Z.pick rfl rfl)
  case abH=>(intro _;exact Z.mv rfl)
  case abI=>(intro _;exact Z.on (Z.mv rfl))
  case abJ=>(intro _;exact Z.on (Z.tT (Z.bi rfl rfl rfl) (decide_eq_true (by omega))))
  case abK=>exact Z.on (Z.bW 2 av rfl rfl rfl)
  case abL=>(intro _;exact Z.on (Z.call rfl rfl (λH=>h81 H)))
  case abM=>exact Z.on (Z.bW 5 av rfl rfl rfl)
  case abN=>(intro _;exact Z.on (Z.call rfl rfl (λH=>h83 H)))
  case abO=>(intro _;exact Z.on (Z.tT (Z.bs rfl rfl rfl) (rP (by omega))))
  case abP=>(intro _;exact Z.on (Z.beq Tryz.underlying4 rfl rfl))
  case abQ=>(intro _;exact Z.pick rfl rfl)
  case abR=>(intro _;exact Z.mv rfl)
  case abS=>(intro _;exact Z.on (Z.mv rfl))
  case abT=>(intro _;exact Z.on (Z.tT (Z.bi rfl rfl rfl) (decide_eq_true (by omega))))
  case abU=>(intro _;exact Z.on (Z.mv rfl))
  case abV=>(intro _;exact Z.of)
  case abW=>(intro _;exact Z.of)
  case abX=>(intro _;exact Z.on (Z.pick rfl rfl))
  case abY=>(intro _;exact Z.pick rfl rfl)
  case abZ=>(intro _;exact Z.mv rfl)
  case ab0=>(intro _;exact Z.on (Z.mv rfl))
  case ab1=>(intro _;exact Z.on (Z.tT (Z.bi rfl rfl rfl) (decide_eq_true (by omega))))
  case ab2=>(intro _;exact Z.pick rfl rfl)
  case ab3=>(intro _;exact Z.mv rfl)
  case ab4=>exact Z.on (Z.bW 0 di rfl rfl rfl)
  case ab5=>exact Z.on (Z.bW 6 di rfl rfl rfl)
  case ab6=>(intro _;exact Z.on (Z.call rfl rfl (λH=>sm H)))
  case ab7=>(intro _;exact Z.pick rfl rfl)
  case ab8=>(intro _;exact Z.as rfl)
  refine CH.nil<|?_
  simp only[app,bS]
  refine UQ.then<|UW.ret<|S.bH (λ_=>ak U U)<|?_
  rfl
end Go.Proofs.YtonpfomjoiaacaaGreatDoor
end
