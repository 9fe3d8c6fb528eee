/- A part of the proof. -/
import Derived.Test.YtonpfomjoiaacaaGreatDoorMz28
set_option maxRecDepth 100000
set_option maxHeartbeats 4000000
set_option linter.unusedSectionVars false
set_option linter.unusedVariables false
set_option linter.unusedSimpArgs false
section
namespace Go.Proofs.YtonpfomjoiaacaaGreatDoor
open Go Go.fT Go.RowKit
structure W8 where
 a:Int
 b:Int
 c:Int
 d:Int
 e:Int
 f:Int
 g:Int
 h:Int
def W8.l(x:W8):List Int:=[x.a,x.b,x.c,x.d,x.e,x.f,x.g,x.h]
def t1W(x:W8)(k w:Int):Int:=pR (pR (pR (pR x.h (Og x.e 6 11 25)) (Lu (Rc x.e x.f) (Rc (notW x.e) x.g))) k) w
def t2W(x:W8):Int:=pR (Og x.a 2 13 22) (Lu (Lu (Rc x.a x.b) (Rc x.a x.c)) (Rc x.b x.c))
def Er(x:W8)(k w:Int):W8:=⟨pR (t1W x k w) (t2W x),x.a,x.b,x.c,pR x.d (t1W x k w),x.e,x.f,x.g⟩
def vZ(ws:List Int)(x:W8):Nat->W8
 |0=>x
 |t+1=>Er (vZ ws x t) (Ef.getD t 0) (ws.getD t 0)
def Zz(x h:W8):W8:=⟨pR x.a h.a,pR x.b h.b,pR x.c h.c,pR x.d h.d,pR x.e h.e,pR x.f h.f,pR x.g h.g,pR x.h h.h⟩
def uk(h:W8)(b:List Int):W8:=Zz (vZ (bB b 64) h 64) h
def wK(x h:W8)(m:Nat):List Int:=(Zz x h).l.take m++x.l.drop m
theorem zq(x h:W8)(m:Nat):(wK x h m).length=8:=by unfold wK;rw[List.length_append,List.length_take,List.length_drop];show min m 8+(8-m)=8;omega
theorem P9(x h:W8):∀m:Fin 8,(wK x h m.val).getD m.val 0=x.l.getD m.val 0:=by
 rintro⟨m,hm⟩
 match m,hm with
 |0,_=>rfl
 |1,_=>rfl
 |2,_=>rfl
 |3,_=>rfl
 |4,_=>rfl
 |5,_=>rfl
 |6,_=>rfl
 |7,_=>rfl
theorem LA(x h:W8):∀m:Fin 8,(wK x h m.val).set m.val (pR (x.l.getD m.val 0) (h.l.getD m.val 0))=wK x h (m.val+1):=by
 rintro⟨m,hm⟩
 match m,hm with
 |0,_=>rfl
 |1,_=>rfl
 |2,_=>rfl
 |3,_=>rfl
 |4,_=>rfl
 |5,_=>rfl
 |6,_=>rfl
 |7,_=>rfl
theorem LB:Ef.length=64:=rfl
theorem Rl(h:W8)(b:List Int)(hl:b.length=64)(hb:eO b)(H:Hp):au Tryz.prog 220 [.agg (iN h.l),.sl (bf b)] H (bz H (.agg (iN (uk h b).l))):=by
 have hwl:=mW (bB b 64)
 rw[jl] at hwl
 have hsz:(Tryz.prog.info? 205).map (·.size)=some (iN (uk h b).l).length:=by kernel_rfl
 refine aF (n:=92) (H0:=H) (I:=[]) Tryz.func220 (by kernel_rfl) U (by rw[Tryz.ntmps220];rfl) .nil<|?_
 refine Q.rg<|S.dd<|D.box U U U λp2=>S.dd<|D.al VD U U U λp4=>Q.nt<|?_
 refine S.Vz (λp:Nat×Nat×Nat×Nat=>[(6,.ptr p.2.2.1 0),(5,.ptr p.2.1 0),(4,.ptr p.1 0),(2,.ptr p.2.2.2 0)]) (λp=>[(p.2.2.1,.box 205 (iN h.l)),(p.2.1,.box 243 (iN (bB b 64))),(p.1,.box 205 (iN [0,0,0,0,0,0,0,0])),(p.2.2.2,.box 205 (iN h.l))]) (λ_=>True) ?_ ?_
 refine' UW.Ta (by kernel_rfl) [1] [0,1,0,0,0,27,63] [some 14,some 15,some 16,none,none,none,none] [some (14,_),some (15,_),some (16,_),none,none,none,none] [3,4,5,6] [4,3,5,6] [] U (by decide) (by decide) (by decide) (by decide) (M.free (by decide) U U ?Es (M.free (by decide) U U ?yc (M.kept (by decide) U U ?yf (M.skip (M.skip (M.skip (M.skip M.nil))))))) ?Oo ?q0x0_k2
 case Es=>(intro _;exact Z.mv rfl)
 case yc=>(intro _;exact Z.call rfl rfl (λ_=>Oi b hl hb _))
 case yf=>(intro _ hK;exact Z.kw 0 hK Br rfl rfl rfl)
 refine CH.cons U U (by decide) ?_ (.c 1 U .n)
 refine D.al Tp U U U λp5=>?_
 refine CH.cons U U (by decide) ?_ (.c 2 U .n)
 refine D.al VD U U U λp6=>?_
 refine CH.df U U ?_ (.c 3 U .n)
 refine D.uq 1 K6 U U U U (Az _) hwl U U λ_=>?_
 refine CH.df U U ?_ (.c 3 U .n)
 refine D.st 0 Br U U U U U U U U λ_=>?_
 refine CH.nil ?_ (.c 3 U .n)
 simp only[app,bV]
 refine S.qQ (p4,p5,p6,p2) ⟨rfl,rfl,rfl,rfl,trivial⟩ (.refl _) trivial
 refine CH.cons U U (by decide) ?_ (.c 1 U .n)
 refine D.al VD U U U λp6=>?_
 refine CH.cons U U (by decide) ?_ (.c 2 U .n)
 refine D.al Tp U U U λp5=>?_
 refine CH.df U U ?_ (.c 3 U .n)
 refine D.uq 0 K6 U U U U (Az _) hwl U U λ_=>?_
 refine CH.df U U ?_ (.c 3 U .n)
 refine D.st 1 Br U U U U U U U U λ_=>?_
 refine CH.nil ?_ (.c 3 U .n)
 simp only[app,bV]
 refine UQ.swap<|?_
 refine S.qQ (p4,p5,p6,p2) ⟨rfl,rfl,rfl,rfl,trivial⟩ (.refl _) trivial
 rintro⟨p4,p5,p6,p2⟩ _
 dsimp only
 refine S.sq<|Q.rg<|S.qu (Z.call U U (λ_=>Rk _))<|Q.mv U<|Q.nt<|UW.block<|S.loop (λj:Nat×W8=>[(18,.v (.int .i64 (j.1:Int))),(17,.agg (iN Ef)),(6,.ptr p6 0),(5,.ptr p5 0),(4,.ptr p4 0),(2,.ptr p2 0)]) (λj=>[(p6,.box 205 (iN j.2.l)),(p5,.box 243 (iN (bB b 64))),(p4,.box 205 (iN [0,0,0,0,0,0,0,0])),(p2,.box 205 (iN h.l))]) (λj=>j.1<=64/\j.2=vZ (bB b 64) h j.1) (λj=>64-j.1) (0,h) ⟨Nat.zero_le _,rfl⟩ ⟨rfl,rfl,rfl,rfl,rfl,rfl,trivial⟩ (.refl _)<|?_
 rintro⟨j,x⟩ ⟨hj,hx⟩
 dsimp only at hj hx⊢
 by_cases hlt:j<64
 ·have hk:=uX Ef j (by rw[LB];exact hlt)
  have hw:=ldF (bB b 64) 64 (j:Int) j U (by rw[jl];exact hlt) (by rw[jl];decide)
  rw[DY _ _ (jl b 64)] at hw
  refine Q.rg<|Q.bi U U U<|Q.nt<|S.sq<|S.cT U (decide_eq_true (by omega))<|UW.skip<|UQ.then<|S.sq<|UW.block<|Q.rg<|Q.mv U<|S.qu (Z.xar wS jo U U (by omega) (by omega) hk)<|Q.as U<|Q.as U<|Q.nt<|S.sq<|?_
  refine' UW.bG (by kernel_rfl) [0,1,0,4,3,31] [some 22,some 23,some 24,some 25,some 9,some 10] [some (22,_),some (23,_),some (24,_),some (25,_),some (9,_),some (10,_)] [] [1,3] U (by decide) (by decide) (M.free (by decide) U U ?je (M.held (by decide) U U ?jf (M.free (by decide) U U ?jg (M.held (by decide) U U ?jh (M.free (by decide) U U ?ji (M.free (by decide) U U ?jK M.nil)))))) ?su
  case je=>(intro _;exact Z.DR lF rfl rfl (by omega) (by omega))
  case jf=>exact Z.di 0 jo rfl rfl rfl
  case jg=>(intro _;exact Z.DR lF rfl rfl (by omega) (by omega))
  case jh=>exact Z.di 0 jo rfl rfl rfl
  case ji=>(intro _;exact Z.as rfl)
  case jK=>(intro _;exact Z.as rfl)
  refine CH.nil<|?_
  simp only[app,bV]
  refine UQ.then<|S.sq<|?_
  refine' UW.bG (by kernel_rfl) [0,1,0,4,15,0,0,64,224,0,512,0,2048,7680,16352,32767,0,131071,0,262144,786432,2097151,4194303] [some 26,some 27,some 28,some 29,some 30,some 31,some 32,some 33,some 34,some 35,some 36,some 37,some 38,some 39,some 40,some 41,some 42,some 43,some 44,some 45,some 46,some 47,some 11] [some (26,_),some (27,_),some (28,_),some (29,_),some (30,_),some (31,_),some (32,_),some (33,_),some (34,_),some (35,_),some (36,_),some (37,_),some (38,_),some (39,_),some (40,_),some (41,_),some (42,_),some (43,_),some (44,_),some (45,_),some (46,_),some (47,_),some (11,_)] [] [1,7,12,20] U (by decide) (by decide) (M.free (by decide) U U ?NL (M.held (by decide) U U ?NM (M.free (by decide) U U ?NN (M.free (by decide) U U ?NP (M.free (by decide) U U ?NQ (M.free (by decide) U U ?NR (M.free (by decide) U U ?NS (M.held (by decide) U U ?NT (M.free (by decide) U U ?aaR (M.free (by decide) U U ?aaS (M.free (by decide) U U ?WN (M.free (by decide) U U ?WO (M.held (by decide) U U ?WQ (M.free (by decide) U U ?WR (M.free (by decide) U U ?WS (M.free (by decide) U U ?WT (M.free (by decide) U U ?WU (M.free (by decide) U U ?WV (M.free (by decide) U U ?WW (M.free (by decide) U U ?WX (M.held (by decide) U U ?WY (M.free (by decide) U U ?WZ (M.free (by decide) U U ?W9 M.nil))))))))))))))))))))))) ?aaD
  case NL=>(intro _;exact Z.DR lF rfl rfl (by omega) (by omega))
  case NM=>exact Z.di 0 jo rfl rfl rfl
  case NN=>(intro _;exact Z.mv rfl)
  case NP=>(intro _;exact Z.call rfl rfl (λ_=>DW _ _ _ _ (by omega) (by omega) (by omega) _))
  case NQ=>(intro _;exact Z.pU rfl rfl)
  case NR=>(intro _;exact Z.mv rfl)
  case NS=>(intro _;exact Z.DR lF rfl rfl (by omega) (by omega))
  case NT=>exact Z.di 0 jo rfl rfl rfl
  case aaR=>(intro _;exact Z.F8 rfl rfl)
  case aaS=>(intro _;exact Z.mv rfl)
  case WN=>(intro _;exact Z.wnot rfl)
  case WO=>(intro _;exact Z.DR lF rfl rfl (by omega) (by omega))
  case WQ=>exact Z.di 0 jo rfl rfl rfl
  case WR=>(intro _;exact Z.F8 rfl rfl)
  case WS=>(intro _;exact Z.uw rfl rfl)
  case WT=>(intro _;exact Z.pU rfl rfl)
  case WU=>(intro _;exact Z.mv rfl)
  case WV=>(intro _;exact Z.pU rfl rfl)
  case WW=>(intro _;exact Z.mv rfl)
  case WX=>(intro _;exact Z.DR wS rfl rfl (by omega) (by omega))
  case WY=>exact Z.di 1 jo rfl rfl hw
  case WZ=>(intro _;exact Z.pU rfl rfl)
  case W9=>(intro _;exact Z.as rfl)
  refine CH.nil<|?_
  simp only[app,bV]
  refine UQ.then<|S.sq<|?_
  refine' UW.bG (by kernel_rfl) [0,1,0,0,8,28,0,0,128,448,1020,0,2048,0,8192,30720,65532,131071,262143] [some 48,some 49,some 50,some 51,some 52,some 53,some 54,some 55,some 56,some 57,some 58,some 59,some 60,some 61,some 62,some 63,some 64,some 65,some 12] [some (48,_),some (49,_),some (50,_),some (51,_),some (52,_),some (53,_),some (54,_),some (55,_),some (56,_),some (57,_),some (58,_),some (59,_),some (60,_),some (61,_),some (62,_),some (63,_),some (64,_),some (65,_),some (12,_)] [] [4,8,12,14] U (by decide) (by decide) (M.free (by decide) U U ?aaT (M.free (by decide) U U ?aaU (M.free (by decide) U U ?aaV (M.free (by decide) U U ?aaW (M.held (by decide) U U ?aaX (M.free (by decide) U U ?aaY (M.free (by decide) U U ?aaZ (M.free (by decide) U U ?aa0 (M.held (by decide) U U ?aa1 (M.free (by decide) U U ?aa2 (M.free (by decide) U U ?Xa (M.free (by decide) U U ?Xb (M.held (by decide) U U ?Xc (M.free (by decide) U U ?Xd (M.held (by decide) U U ?Xe (M.free (by decide) U U ?Xf (M.free (by decide) U U ?Xg (M.free (by decide) U U ?Xh (M.free (by decide) U U ?Xi M.nil))))))))))))))))))) ?q2x2_k
  case aaT=>(intro _;exact Z.mv rfl)
  case aaU=>(intro _;exact Z.call rfl rfl (λ_=>DW _ _ _ _ (by omega) (by omega) (by omega) _))
  case aaV=>(intro _;exact Z.mv rfl)
  case aaW=>(intro _;exact Z.DR lF rfl rfl (by omega) (by omega))
  case aaX=>exact Z.di 0 jo rfl rfl rfl
  case aaY=>(intro _;exact Z.F8 rfl rfl)
  case aaZ=>(intro _;exact Z.mv rfl)
  case aa0=>(intro _;exact Z.DR lF rfl rfl (by omega) (by omega))
  case aa1=>exact Z.di 0 jo rfl rfl rfl
  case aa2=>(intro _;exact Z.F8 rfl rfl)
  case Xa=>(intro _;exact Z.uw rfl rfl)
  case Xb=>(intro _;exact Z.DR lF rfl rfl (by omega) (by omega))
  case Xc=>exact Z.di 0 jo rfl rfl rfl
  case Xd=>(intro _;exact Z.DR lF rfl rfl (by omega) (by omega))
  case Xe=>exact Z.di 0 jo rfl rfl rfl
  case Xf=>(intro _;exact Z.F8 rfl rfl)
  case Xg=>(intro _;exact Z.uw rfl rfl)
  case Xh=>(intro _;exact Z.pU rfl rfl)
  case Xi=>(intro _;exact Z.as rfl)
  refine CH.nil<|?_
  simp only[app,bV]
  refine UQ.then<|S.sq<|?_
  refine' UW.bG (by kernel_rfl) [0,0,3] [some 66,some 67,none] [some (66,_),some (67,_),none] [2] [0,1] U (by decide) (by decide) (M.held (by decide) U U ?aa3 (M.held (by decide) U U ?aa4 (M.skip M.nil))) ?q2x3_k
  case aa3=>exact Z.slb 0 lF rfl rfl (.lo rfl) (by decide) (by decide) (by decide)
  case aa4=>exact Z.slb 0 lF rfl rfl (.hi rfl) (by decide) (by decide) (by decide)
  refine CH.cons U U (by decide)<|D.cpb (m:=7) (aL:=[(p6,.box 205 (iN [x.a,x.a,x.b,x.c,x.d,x.e,x.f,x.g])),(p5,.box 243 (iN (bB b 64))),(p4,.box 205 (iN [0,0,0,0,0,0,0,0])),(p2,.box 205 (iN h.l))]) 0 sl247 U U U U (by show(0+1+7:Nat)<=8;decide) (by show(0+0+7:Nat)<=8;decide) U<|?_
  refine CH.nil<|?_
  simp only[app,bV]
  refine UQ.then<|Q.rg<|S.qu (Z.DR lF U U (by omega) (by omega))<|Q.lc 0 jo U U U<|Q.mv U<|S.qu (Z.pU U U)<|S.qu (Z.DR lF U U (by omega) (by omega))<|S.s<|D.st 0 jo U U U U U U U U λ_=>Q.nt<|S.rg<|Q.mv U<|Q.mv U<|S.qu (Z.pU U U)<|S.qu (Z.DR lF U U (by omega) (by omega))<|S.s<|D.st 0 jo U U U U U U U U λ_=>US.nil<|UQ.aB<|UQ.then<|S.rg<|S.qu (Z.add (r:=((j+1:Nat):Int)) U U (IntWalk.i64_in _ (by omega)))<|Q.mv U<|US.nil<|?_
  refine S.back (j+1,Er x (Ef.getD j 0) ((bB b 64).getD j 0)) ⟨rfl,rfl,rfl,rfl,rfl,rfl,trivial⟩ (.refl _) ?_ (by omega)
  exact⟨by show j+1<=64;omega,by show Er x _ _=_;rw[hx];rfl⟩
 ·have Oj:j=64:=by omega
  subst Oj
  refine Q.rg<|Q.bi U U U<|Q.nt<|S.sq<|S.cF U (decide_eq_false (by omega))<|UW.exit<|UQ.pass<|UQ.pass<|UQ.here<|UQ.then<|S.sq<|Q.rg<|Q.mv U<|Q.nt<|UW.block<|S.loop (λm:Nat=>[(79,.v (.int .i64 (m:Int))),(6,.ptr p6 0),(4,.ptr p4 0),(2,.ptr p2 0)]) (λm=>[(p6,.box 205 (iN (wK x h m))),(p4,.box 205 (iN [0,0,0,0,0,0,0,0])),(p2,.box 205 (iN h.l))]) (λm=>m<=8) (λm=>8-m) 0 (Nat.zero_le _) ⟨rfl,rfl,rfl,rfl,trivial⟩ (by exact .cons_cons _ (.cons _ (.refl _)))<|?_
  intro m hm
  by_cases Cc:m<8
  ·have e0:0+(m:Int).toNat*1=m:=by omega
   have h84:=uX (wK x h m) m (by rw[zq];exact Cc)
   rw[P9 x h ⟨m,Cc⟩] at h84
   have h87:=uX h.l m Cc
   have hset:=zn (iN (wK x h m)) m (.v (.int .u32 (pR (x.l.getD m 0) (h.l.getD m 0)))) (by rw[mW,zq];exact Cc)
   rw[DX,LA x h ⟨m,Cc⟩] at hset
   refine Q.rg<|Q.bi U U U<|Q.nt<|S.sq<|S.cT U (decide_eq_true (by omega))<|UW.skip<|UQ.then<|S.sq<|UW.block<|Q.rg<|Q.mv U<|Q.as U<|Q.nt<|?_
   refine' UW.bG (by kernel_rfl) [0,1,3,0,8,24,63,127,255] [some 82,some 83,some 84,some 85,some 86,some 87,some 88,some 89,none] [some (82,_),some (83,_),some (84,_),some (85,_),some (86,_),some (87,_),some (88,_),some (89,_),none] [8] [2,5] U (by decide) (by decide) (M.free (by decide) U U ?lZ (M.free (by decide) U U ?l5 (M.held (by decide) U U ?l6 (M.free (by decide) U U ?l7 (M.free (by decide) U U ?o7 (M.held (by decide) U U ?oQ (M.free (by decide) U U ?oU (M.free (by decide) U U ?oV (M.skip M.nil))))))))) ?Am
   case lZ=>(intro _;exact Z.mv rfl)
   case l5=>(intro _;exact Z.DR lF rfl rfl (by omega) (by omega))
   case l6=>exact Z.di 0 jo rfl rfl (by rw[e0];exact h84)
   case l7=>(intro _;exact Z.mv rfl)
   case o7=>(intro _;exact Z.DR lF rfl rfl (by omega) (by omega))
   case oQ=>exact Z.di 2 jo rfl rfl (by rw[e0];exact h87)
   case oU=>(intro _;exact Z.pU rfl rfl)
   case oV=>(intro _;exact Z.DR lF rfl rfl (by omega) (by omega))
   refine CH.df U U<|D.st 0 jo U U U U U U (by rw[e0];exact hset) U λ_=>?_
   refine CH.nil<|?_
   simp only[app,bV]
   refine UQ.aB<|UQ.then<|S.rg<|S.qu (Z.add (r:=((m+1:Nat):Int)) U U (IntWalk.i64_in _ (by omega)))<|Q.mv U<|US.nil<|?_
   refine S.back _ ⟨rfl,rfl,rfl,rfl,trivial⟩ (.refl _) (by omega) (by omega)
  ·have hm8:m=8:=by omega
   subst hm8
   have hfin:wK x h 8=(uk h b).l:=by
    rw[hx]
    unfold uk
    generalize vZ (bB b 64) h 64=y
    rfl
   rw[hfin]
   refine Q.rg<|Q.bi U U U<|Q.nt<|S.sq<|S.cF U (decide_eq_false (by omega))<|UW.exit<|UQ.pass<|UQ.pass<|UQ.here<|UQ.then<|Q.rg<|S.qu (Z.dA 0 Br U U U)<|S.s<|D.st 1 Br U U U U U U U U λ_=>Q.nt<|UW.ret<|S.bK (λhd=>Ae (k:=1) hd U U U Tryz.underlying205 (by assumption))<|?_
   rfl
theorem Oq(h:W8)(b:List Int)(hl:b.length=64)(hb:eO b)(H:Hp):au Tryz.prog 107 [.sl (encR h.l),.sl (bf b)] H (bz H (.sl (encR (uk h b).l))):=by
 have hhs:=Cs h.l
 refine aF (n:=131) (H0:=H) (I:=[]) Tryz.func107 (by kernel_rfl) U (by rw[Tryz.ntmps107];rfl) .nil<|?_
 refine Q.rg<|Q.as U<|Q.nt<|Q.rg<|Q.mv U<|S.qu (Z.call U U (λ_=>Lx b hl hb _))<|Q.as U<|Q.nt<|Q.rg<|S.qu (Z.call U U (λ_=>Ol _))<|Q.as U<|Q.nt<|Q.rg<|Q.as U<|Q.nt<|Q.rg<|Q.mv U<|Q.mv U<|S.dd<|D.apn uK U U (.sl hhs) (by show 8*4<=140737488355328;decide) λZ9=>?_
 refine Q.as U<|Q.nt<|S.sq<|Q.rg<|Q.as U<|Q.nt<|UW.block<|S.loop (λj:Nat×W8×Nat=>[(8,.v (.int .i64 (j.1:Int))),(7,.own j.2.2 0 8 1),(6,.sl (encR Ef)),(5,.sl (encR (bB b 64))),(0,.sl (encR h.l))]) (λj=>[(j.2.2,.row 108 1 (encR j.2.1.l))]) (λj=>j.1<=64/\j.2.1=vZ (bB b 64) h j.1) (λj=>64-j.1) (0,h,Z9) ⟨Nat.zero_le _,rfl⟩ ⟨rfl,rfl,rfl,rfl,rfl,trivial⟩ (.refl _)<|?_
 rintro⟨j,x,r⟩ ⟨hj,hx⟩
 dsimp only at hj hx⊢
 have hxs:=Cs x.l
 by_cases hlt:j<64
 ·have hk:=lG Ef j (by rw[LB];exact hlt)
  have hw:=lG (bB b 64) j (by rw[jl];exact hlt)
  refine S.sq<|Q.rg<|Q.mv U<|Q.bi U U U<|Q.nt<|S.cT U (decide_eq_true (by omega))<|UW.skip<|UQ.then<|S.sq<|UW.block<|Q.rg<|Q.mv U<|S.qu (Z.io iB U U (by omega) (by omega))<|S.qu (Z.Ib 0 iL U U (m:=4) U (by assumption) U)<|?_
  refine Q.as U<|Q.nt<|Q.rg<|Q.mv U<|S.qu (Z.io iB U U (by omega) (by omega))<|S.qu (Z.Ib 0 iL U U (m:=0) U (by assumption) U)<|?_
  refine Q.as U<|Q.nt<|S.sq<|?_
  refine' UW.bG (by kernel_rfl) [0,1,3,0,8,0,56,120,0,376,1016,2047,0,0,8192,24576,61440,0,131072,0,524288,1572864,4063232,8384512,16777215,0,0,100663296,234881024,536870911,0,0,3221225472,7516192768,17179869183,34359738367] [some 30,some 31,some 32,some 33,some 34,some 35,some 36,some 37,some 38,some 39,some 40,some 41,some 42,some 43,some 44,some 45,some 46,some 47,some 48,some 49,some 50,some 51,some 52,some 53,some 54,some 55,some 56,some 57,some 58,some 59,some 60,some 61,some 62,some 63,some 64,some 11] [some (30,_),some (31,_),some (32,_),some (33,_),some (34,_),some (35,_),some (36,_),some (37,_),some (38,_),some (39,_),some (40,_),some (41,_),some (42,_),some (43,_),some (44,_),some (45,_),some (46,_),some (47,_),some (48,_),some (49,_),some (50,_),some (51,_),some (52,_),some (53,_),some (54,_),some (55,_),some (56,_),some (57,_),some (58,_),some (59,_),some (60,_),some (61,_),some (62,_),some (63,_),some (64,_),some (11,_)] [] [2,15,21,28,33] U (by decide) (by decide) (M.free (by decide) U U ?Et (M.free (by decide) U U ?Eu (M.held (by decide) U U ?Ew (M.free (by decide) U U ?Ex (M.free (by decide) U U ?Ey (M.free (by decide) U U ?Ez (M.free (by decide) U U ?EA (M.free (by decide) U U ?EB (M.free (by decide) U U ?EC (M.free (by decide) U U ?Ot (M.free (by decide) U U ?Jw (M.free (by decide) U U ?Jy (M.free (by decide) U U ?Jz (M.free (by decide) U U ?JA (M.free (by decide) U U ?JB (M.held (by decide) U U ?JC (M.free (by decide) U U ?JD (M.free (by decide) U U ?JE (M.free (by decide) U U ?JF (M.free (by decide) U U ?JG (M.free (by decide) U U ?JH (M.held (by decide) U U ?JI (M.free (by decide) U U ?JJ (M.free (by decide) U U ?JK (M.free (by decide) U U ?JL (M.free (by decide) U U ?Xj (M.free (by decide) U U ?Xk (M.free (by decide) U U ?Xl (M.held (by decide) U U ?Xm (M.free (by decide) U U ?Xn (M.free (by decide) U U ?Xo (M.free (by decide) U U ?Xp (M.free (by decide) U U ?Xq (M.held (by decide) U U ?Xr (M.free (by decide) U U ?Xt (M.free (by decide) U U ?Xu M.nil)))))))))))))))))))))))))))))))))))) ?Ua
  case Et=>(intro _;exact Z.mv rfl)
  case Eu=>(intro _;exact Z.io iB rfl rfl (by omega) (by omega))
  case Ew=>exact Z.Ib 0 iL rfl rfl (m:=7) rfl (by assumption) rfl
  case Ex=>(intro _;exact Z.mv rfl)
  case Ey=>(intro _;exact Z.call rfl rfl (λ_=>jw _ _ (by omega) (by omega) _))
  case Ez=>(intro _;exact Z.mv rfl)
  case EA=>(intro _;exact Z.call rfl rfl (λ_=>jw _ _ (by omega) (by omega) _))
  case EB=>(intro _;exact Z.uw rfl rfl)
  case EC=>(intro _;exact Z.mv rfl)
  case Ot=>(intro _;exact Z.call rfl rfl (λ_=>jw _ _ (by omega) (by omega) _))
  case Jw=>(intro _;exact Z.uw rfl rfl)
  case Jy=>(intro _;exact Z.pU rfl rfl)
  case Jz=>(intro _;exact Z.mv rfl)
  case JA=>(intro _;exact Z.mv rfl)
  case JB=>(intro _;exact Z.io iB rfl rfl (by omega) (by omega))
  case JC=>exact Z.Ib 0 iL rfl rfl (m:=5) rfl (by assumption) rfl
  case JD=>(intro _;exact Z.F8 rfl rfl)
  case JE=>(intro _;exact Z.mv rfl)
  case JF=>(intro _;exact Z.wnot rfl)
  case JG=>(intro _;exact Z.mv rfl)
  case JH=>(intro _;exact Z.io iB rfl rfl (by omega) (by omega))
  case JI=>exact Z.Ib 0 iL rfl rfl (m:=6) rfl (by assumption) rfl
  case JJ=>(intro _;exact Z.F8 rfl rfl)
  case JK=>(intro _;exact Z.uw rfl rfl)
  case JL=>(intro _;exact Z.pU rfl rfl)
  case Xj=>(intro _;exact Z.mv rfl)
  case Xk=>(intro _;exact Z.mv rfl)
  case Xl=>(intro _;exact Z.ia iB rfl rfl (by omega) hk (by rfl))
  case Xm=>exact Z.fE iL rfl
  case Xn=>(intro _;exact Z.pU rfl rfl)
  case Xo=>(intro _;exact Z.mv rfl)
  case Xp=>(intro _;exact Z.mv rfl)
  case Xq=>(intro _;exact Z.ia iB rfl rfl (by omega) hw (by rfl))
  case Xr=>exact Z.fE iL rfl
  case Xt=>(intro _;exact Z.pU rfl rfl)
  case Xu=>(intro _;exact Z.as rfl)
  refine CH.nil<|?_
  simp only[app,bV]
  refine UQ.then<|S.sq<|?_
  refine' UW.bG (by kernel_rfl) [0,1,0,7,15,0,47,127,0,0,512,1536,3840,0,0,16384,49152,122880,261888,0,524288,1572864,0,4194304,12582912,33030144,67108608,134217727,268435455] [some 65,some 66,some 67,some 68,some 69,some 70,some 71,some 72,some 73,some 74,some 75,some 76,some 77,some 78,some 79,some 80,some 81,some 82,some 83,some 84,some 85,some 86,some 87,some 88,some 89,some 90,some 91,some 92,some 12] [some (65,_),some (66,_),some (67,_),some (68,_),some (69,_),some (70,_),some (71,_),some (72,_),some (73,_),some (74,_),some (75,_),some (76,_),some (77,_),some (78,_),some (79,_),some (80,_),some (81,_),some (82,_),some (83,_),some (84,_),some (85,_),some (86,_),some (87,_),some (88,_),some (89,_),some (90,_),some (91,_),some (92,_),some (12,_)] [] [11,16,21,24] U (by decide) (by decide) (M.free (by decide) U U ?Ou (M.free (by decide) U U ?Ov (M.free (by decide) U U ?Ow (M.free (by decide) U U ?Oy (M.free (by decide) U U ?Oz (M.free (by decide) U U ?OA (M.free (by decide) U U ?OB (M.free (by decide) U U ?aa5 (M.free (by decide) U U ?aa6 (M.free (by decide) U U ?aa7 (M.free (by decide) U U ?Xv (M.held (by decide) U U ?Xw (M.free (by decide) U U ?Xx (M.free (by decide) U U ?Xy (M.free (by decide) U U ?Xz (M.free (by decide) U U ?XA (M.held (by decide) U U ?XB (M.free (by decide) U U ?XC (M.free (by decide) U U ?XD (M.free (by decide) U U ?XE (M.free (by decide) U U ?XF (M.held (by decide) U U ?XG (M.free (by decide) U U ?XH (M.free (by decide) U U ?XI (M.held (by decide) U U ?XJ (M.free (by decide) U U ?XK (M.free (by decide) U U ?XL (M.free (by decide) U U ?XM (M.free (by decide) U U ?XN M.nil))))))))))))))))))))))))))))) ?aa8
  case Ou=>(intro _;exact Z.mv rfl)
  case Ov=>(intro _;exact Z.call rfl rfl (λ_=>jw _ _ (by omega) (by omega) _))
  case Ow=>(intro _;exact Z.mv rfl)
  case Oy=>(intro _;exact Z.call rfl rfl (λ_=>jw _ _ (by omega) (by omega) _))
  case Oz=>(intro _;exact Z.uw rfl rfl)
  case OA=>(intro _;exact Z.mv rfl)
  case OB=>(intro _;exact Z.call rfl rfl (λ_=>jw _ _ (by omega) (by omega) _))
  case aa5=>(intro _;exact Z.uw rfl rfl)
  case aa6=>(intro _;exact Z.mv rfl)
  case aa7=>(intro _;exact Z.mv rfl)
  case Xv=>(intro _;exact Z.io iB rfl rfl (by omega) (by omega))
  case Xw=>exact Z.Ib 0 iL rfl rfl (m:=1) rfl (by assumption) rfl
  case Xx=>(intro _;exact Z.F8 rfl rfl)
  case Xy=>(intro _;exact Z.mv rfl)
  case Xz=>(intro _;exact Z.mv rfl)
  case XA=>(intro _;exact Z.io iB rfl rfl (by omega) (by omega))
  case XB=>exact Z.Ib 0 iL rfl rfl (m:=2) rfl (by assumption) rfl
  case XC=>(intro _;exact Z.F8 rfl rfl)
  case XD=>(intro _;exact Z.uw rfl rfl)
  case XE=>(intro _;exact Z.mv rfl)
  case XF=>(intro _;exact Z.io iB rfl rfl (by omega) (by omega))
  case XG=>exact Z.Ib 0 iL rfl rfl (m:=1) rfl (by assumption) rfl
  case XH=>(intro _;exact Z.mv rfl)
  case XI=>(intro _;exact Z.io iB rfl rfl (by omega) (by omega))
  case XJ=>exact Z.Ib 0 iL rfl rfl (m:=2) rfl (by assumption) rfl
  case XK=>(intro _;exact Z.F8 rfl rfl)
  case XL=>(intro _;exact Z.uw rfl rfl)
  case XM=>(intro _;exact Z.pU rfl rfl)
  case XN=>(intro _;exact Z.as rfl)
  refine CH.nil<|?_
  simp only[app,bV]
  refine UQ.then<|?_
  refine' UW.bG (by kernel_rfl) [0,0,3,0,0,16,48,0,128,384,0,1024,3072,0,15360,0,0,65536,196608,0,524288,1572864,4194303,8388607] [some 93,some 94,some 95,some 96,some 97,some 98,some 99,some 100,some 101,some 102,some 103,some 104,some 105,some 106,some 107,some 108,some 109,some 110,some 111,some 112,some 113,some 114,none,none] [some (93,_),some (94,_),some (95,_),some (96,_),some (97,_),some (98,_),some (99,_),some (100,_),some (101,_),some (102,_),some (103,_),some (104,_),some (105,_),some (106,_),some (107,_),some (108,_),some (109,_),some (110,_),some (111,_),some (112,_),some (113,_),some (114,_),none,none] [22,23] [6,9,12,18,21] U (by decide) (by decide) (M.free (by decide) U U ?aa9 (M.free (by decide) U U ?aba (M.free (by decide) U U ?abb (M.free (by decide) U U ?abd (M.free (by decide) U U ?abe (M.free (by decide) U U ?abf (M.held (by decide) U U ?abg (M.free (by decide) U U ?abh (M.free (by decide) U U ?abj (M.held (by decide) U U ?abk (M.free (by decide) U U ?XO (M.free (by decide) U U ?XP (M.held (by decide) U U ?XQ (M.free (by decide) U U ?XR (M.free (by decide) U U ?XT (M.free (by decide) U U ?XU (M.free (by decide) U U ?XV (M.free (by decide) U U ?XW (M.held (by decide) U U ?XX (M.free (by decide) U U ?XY (M.free (by decide) U U ?XZ (M.held (by decide) U U ?X0 (M.skip (M.skip M.nil)))))))))))))))))))))))) ?q7x2_k
  case aa9=>(intro _;exact Z.mv rfl)
  case aba=>(intro _;exact Z.mv rfl)
  case abb=>(intro _;exact Z.pU rfl rfl)
  case abd=>(intro _;exact Z.mv rfl)
  case abe=>(intro _;exact Z.mv rfl)
  case abf=>(intro _;exact Z.io iB rfl rfl (by omega) (by omega))
  case abg=>exact Z.Ib 0 iL rfl rfl (m:=1) rfl (by assumption) rfl
  case abh=>(intro _;exact Z.mv rfl)
  case abj=>(intro _;exact Z.io iB rfl rfl (by omega) (by omega))
  case abk=>exact Z.Ib 0 iL rfl rfl (m:=2) rfl (by assumption) rfl
  case XO=>(intro _;exact Z.mv rfl)
  case XP=>(intro _;exact Z.io iB rfl rfl (by omega) (by omega))
  case XQ=>exact Z.Ib 0 iL rfl rfl (m:=3) rfl (by assumption) rfl
  case XR=>(intro _;exact Z.mv rfl)
  case XT=>(intro _;exact Z.pU rfl rfl)
  case XU=>(intro _;exact Z.mv rfl)
  case XV=>(intro _;exact Z.mv rfl)
  case XW=>(intro _;exact Z.io iB rfl rfl (by omega) (by omega))
  case XX=>exact Z.Ib 0 iL rfl rfl (m:=5) rfl (by assumption) rfl
  case XY=>(intro _;exact Z.mv rfl)
  case XZ=>(intro _;exact Z.io iB rfl rfl (by omega) (by omega))
  case X0=>exact Z.Ib 0 iL rfl rfl (m:=6) rfl (by assumption) rfl
  refine CH.cons U U (by decide)<|D.lit uK U U (bA U) λp115=>CH.cons U U (by decide)<|D.qu (Z.as U)<|CH.nil<|?_
  simp only[app,bV]
  refine UQ.aB<|UQ.then<|S.rg<|Q.mv U<|S.qu (Z.add (r:=((j+1:Nat):Int)) U U (IntWalk.i64_in _ (by omega)))<|Q.as U<|US.nil<|?_
  refine S.back (j+1,Er x (Ef.getD j 0) ((bB b 64).getD j 0),p115) ⟨rfl,rfl,rfl,rfl,rfl,trivial⟩ (by repeat (first|exact List.Sublist.refl _|exact List.nil_sublist _|refine .cons_cons _ ?_|refine .cons _ ?_)) ?_ (by omega)
  exact⟨by show j+1<=64;omega,by show Er x _ _=_;rw[hx];rfl⟩
 ·have Oj:j=64:=by omega
  subst Oj
  refine S.sq<|Q.rg<|Q.mv U<|Q.bi U U U<|Q.nt<|S.cF U (decide_eq_false (by omega))<|UW.exit<|UQ.pass<|UQ.pass<|UQ.here<|UQ.then<|S.sq<|Q.rg<|Q.as U<|Q.nt<|UW.block<|S.loop (λm:Nat=>[(13,.v (.int .i64 (m:Int))),(7,.own r 0 8 1),(0,.sl (encR h.l))]) (λm=>[(r,.row 108 1 (encR (wK x h m)))]) (λm=>m<=8) (λm=>8-m) 0 (Nat.zero_le _) ⟨rfl,rfl,rfl,trivial⟩ (.refl _)<|?_
  intro m hm
  have hms:=Cs (wK x h m)
  have wI:=qU (wK x h m)
  rw[zq] at wI
  by_cases Cc:m<8
  ·have h84:=lG (wK x h m) m (by rw[zq];exact Cc)
   rw[P9 x h ⟨m,Cc⟩] at h84
   have h87:=lG h.l m Cc
   have hset:(encR (wK x h m)).set m [.v (.int .u32 (pR (x.l.getD m 0) (h.l.getD m 0)))]=encR (wK x h (m+1)):=by
    rw[<-LA x h ⟨m,Cc⟩];unfold encR;rw[List.map_set]
   refine S.sq<|Q.rg<|Q.mv U<|Q.bi U U U<|Q.nt<|S.cT U (decide_eq_true (by omega))<|UW.skip<|UQ.then<|S.sq<|UW.block<|?_
   refine' UW.bG (by kernel_rfl) [0,0,3,7,0,0,48,112,255,511,1023] [some 120,some 121,some 122,some 123,some 124,some 125,some 126,some 127,some 128,some 129,none] [some (120,_),some (121,_),some (122,_),some (123,_),some (124,_),some (125,_),some (126,_),some (127,_),some (128,_),some (129,_),none] [10] [3,7] U (by decide) (by decide) (M.free (by decide) U U ?DZ (M.free (by decide) U U ?D5 (M.free (by decide) U U ?D6 (M.held (by decide) U U ?D7 (M.free (by decide) U U ?D8 (M.free (by decide) U U ?D9 (M.free (by decide) U U ?Ea (M.held (by decide) U U ?Eb (M.free (by decide) U U ?Ec (M.free (by decide) U U ?Ed (M.skip M.nil))))))))))) ?TZ
   case DZ=>(intro _;exact Z.mv rfl)
   case D5=>(intro _;exact Z.mv rfl)
   case D6=>(intro _;exact Z.io iB rfl rfl (by omega) (by omega))
   case D7=>exact Z.Ib 0 iL rfl rfl (m:=m) (by omega) hms h84
   case D8=>(intro _;exact Z.mv rfl)
   case D9=>(intro _;exact Z.mv rfl)
   case Ea=>(intro _;exact Z.ia iB rfl rfl (by omega) h87 (by rfl))
   case Eb=>exact Z.fE iL rfl
   case Ec=>(intro _;exact Z.pU rfl rfl)
   case Ed=>(intro _;exact Z.io iB rfl rfl (by omega) (by omega))
   refine CH.df U U<|D.sre 0 (m:=m) iL U U (by omega) (by omega) U U U U hms hset λ_=>CH.nil<|?_
   simp only[app,bV]
   refine UQ.aB<|UQ.then<|S.rg<|Q.mv U<|S.qu (Z.add (r:=((m+1:Nat):Int)) U U (IntWalk.i64_in _ (by omega)))<|Q.as U<|US.nil<|?_
   refine S.back (m+1) ⟨rfl,rfl,rfl,trivial⟩ (.refl _) (by omega) (by omega)
  ·have hm8:m=8:=by omega
   subst hm8
   have hfin:wK x h 8=(uk h b).l:=by
    rw[hx]
    unfold uk
    generalize vZ (bB b 64) h 64=y
    rfl
   rw[hfin]
   refine S.sq<|Q.rg<|Q.mv U<|Q.bi U U U<|Q.nt<|S.cF U (decide_eq_false (by omega))<|UW.exit<|UQ.pass<|UQ.pass<|UQ.here<|UQ.then<|Q.rg<|Q.mv U<|Q.as U<|US.gG 4 0 (rs:=encR (uk h b).l) U U (by rw[qU];exact Nat.le_refl 8) (by rw[List.drop_zero];exact List.take_of_length_le (by rw[qU];exact Nat.le_refl 8))<|?_
   refine Q.nt<|UW.ret<|S.bK (λ_=>ak U U)<|?_
   rfl
end Go.Proofs.YtonpfomjoiaacaaGreatDoor
end
