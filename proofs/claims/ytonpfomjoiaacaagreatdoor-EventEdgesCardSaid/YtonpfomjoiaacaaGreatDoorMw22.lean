/- A part of the proof. -/
import Derived.Test.YtonpfomjoiaacaaGreatDoorMw21
set_option maxRecDepth 100000
set_option maxHeartbeats 4000000
set_option linter.unusedSectionVars false
set_option linter.unusedVariables false
set_option linter.unusedSimpArgs false
section
namespace Go.Proofs.YtonpfomjoiaacaaGreatDoor
open Go Go.iG Go.RowKit
structure W8 where
 a:Int
 b:Int
 c:Int
 d:Int
 e:Int
 f:Int
 g:Int
 h:Int
def W8.l(x:W8):List Int:=[x.a,x.b,x.c,x.d,x.e,x.f,x.g,x.h]
def t1W(x:W8)(k w:Int):Int:=rf (rf (rf (rf x.h (PZ x.e 6 11 25)) (Nr (Tz x.e x.f) (Tz (notW x.e) x.g))) k) w
def t2W(x:W8):Int:=rf (PZ x.a 2 13 22) (Nr (Nr (Tz x.a x.b) (Tz x.a x.c)) (Tz x.b x.c))
def Gh(x:W8)(k w:Int):W8:=⟨rf (t1W x k w) (t2W x),x.a,x.b,x.c,rf x.d (t1W x k w),x.e,x.f,x.g⟩
def yg(ws:List Int)(x:W8):Nat->W8
 |0=>x
 |t+1=>Gh (yg ws x t) (F6.getD t 0) (ws.getD t 0)
def plusW(x h:W8):W8:=⟨rf x.a h.a,rf x.b h.b,rf x.c h.c,rf x.d h.d,rf x.e h.e,rf x.f h.f,rf x.g h.g,rf x.h h.h⟩
def vU(h:W8)(b:List Int):W8:=plusW (yg (bE b 64) h 64) h
def yG(x h:W8)(m:Nat):List Int:=(plusW x h).l.take m++x.l.drop m
theorem Bd(x h:W8)(m:Nat):(yG x h m).length=8:=by unfold yG;rw[List.length_append,List.length_take,List.length_drop];show min m 8+(8-m)=8;omega
theorem RZ(x h:W8):∀m:Fin 8,(yG x h m.val).getD m.val 0=x.l.getD m.val 0:=by
 rintro⟨m,hm⟩
 match m,hm with
 |0,_=>rfl
 |1,_=>rfl
 |2,_=>rfl
 |3,_=>rfl
 |4,_=>rfl
 |5,_=>rfl
 |6,_=>rfl
 |7,_=>rfl
theorem Nu(x h:W8):∀m:Fin 8,(yG x h m.val).set m.val (rf (x.l.getD m.val 0) (h.l.getD m.val 0))=yG x h (m.val+1):=by
 rintro⟨m,hm⟩
 match m,hm with
 |0,_=>rfl
 |1,_=>rfl
 |2,_=>rfl
 |3,_=>rfl
 |4,_=>rfl
 |5,_=>rfl
 |6,_=>rfl
 |7,_=>rfl
theorem Nv:F6.length=64:=rfl
theorem TG(h:W8)(b:List Int)(hl:b.length=64)(hb:fo b)(H:Hp):au Tryz.prog 220 [.agg (jr h.l),.sl (bC b)] H (bB H (.agg (jr (vU h b).l))):=by
 have hwl:=oz (bE b 64)
 rw[jM] at hwl
 have hsz:(Tryz.prog.info? 205).map (·.size)=some (jr (vU h b).l).length:=by kernel_rfl
 refine aF (n:=92) (H0:=H) (I:=[]) Tryz.func220 (by kernel_rfl) U (by rw[Tryz.ntmps220];rfl) .nil<|?_
 refine Q.rg<|S.dd<|D.box U U U λp2=>S.dd<|D.al XF U U U λp4=>Q.nt<|?_
 refine S.E5 (λp:Nat×Nat×Nat×Nat=>[(6,.ptr p.2.2.1 0),(5,.ptr p.2.1 0),(4,.ptr p.1 0),(2,.ptr p.2.2.2 0)]) (λp=>[(p.2.2.1,.box 205 (jr h.l)),(p.2.1,.box 243 (jr (bE b 64))),(p.1,.box 205 (jr [0,0,0,0,0,0,0,0])),(p.2.2.2,.box 205 (jr h.l))]) (λ_=>True) ?_ ?_
 refine' UW.U3 (by kernel_rfl) [1] [0,1,0,0,0,27,63] [some 14,some 15,some 16,none,none,none,none] [some (14,_),some (15,_),some (16,_),none,none,none,none] [3,4,5,6] [4,3,5,6] [] U (by decide) (by decide) (by decide) (by decide) (M.free (by decide) U U ?uV (M.free (by decide) U U ?qF (M.kept (by decide) U U ?qG (M.skip (M.skip (M.skip (M.skip M.nil))))))) ?Gi ?q0x0_k2
 case uV=>(intro _;exact Z.mv rfl)
 case qF=>(intro _;exact Z.call rfl rfl (λ_=>P6 b hl hb _))
 case qG=>(intro _ hK;exact Z.kw 0 hK Di rfl rfl rfl)
 refine CH.cons U U (by decide) ?_ (.c 1 U .n)
 refine D.al Vf U U U λp5=>?_
 refine CH.cons U U (by decide) ?_ (.c 2 U .n)
 refine D.al XF U U U λp6=>?_
 refine CH.bX U U ?_ (.c 3 U .n)
 refine D.vW 1 M5 U U U U (Cr _) hwl U U λ_=>?_
 refine CH.bX U U ?_ (.c 3 U .n)
 refine D.st 0 Di U U U U U U U U λ_=>?_
 refine CH.nil ?_ (.c 3 U .n)
 simp only[app,bS]
 refine S.iD (p4,p5,p6,p2) ⟨rfl,rfl,rfl,rfl,trivial⟩ (.refl _) trivial
 refine CH.cons U U (by decide) ?_ (.c 1 U .n)
 refine D.al XF U U U λp6=>?_
 refine CH.cons U U (by decide) ?_ (.c 2 U .n)
 refine D.al Vf U U U λp5=>?_
 refine CH.bX U U ?_ (.c 3 U .n)
 refine D.vW 0 M5 U U U U (Cr _) hwl U U λ_=>?_
 refine CH.bX U U ?_ (.c 3 U .n)
 refine D.st 1 Di U U U U U U U U λ_=>?_
 refine CH.nil ?_ (.c 3 U .n)
 simp only[app,bS]
 refine UQ.swap<|?_
 refine S.iD (p4,p5,p6,p2) ⟨rfl,rfl,rfl,rfl,trivial⟩ (.refl _) trivial
 rintro⟨p4,p5,p6,p2⟩ _
 dsimp only
 refine S.sq<|Q.rg<|S.qu (Z.call U U (λ_=>TF _))<|Q.mv U<|Q.nt<|UW.block<|S.loop (λj:Nat×W8=>[(18,.v (.int .i64 (j.1:Int))),(17,.agg (jr F6)),(6,.ptr p6 0),(5,.ptr p5 0),(4,.ptr p4 0),(2,.ptr p2 0)]) (λj=>[(p6,.box 205 (jr j.2.l)),(p5,.box 243 (jr (bE b 64))),(p4,.box 205 (jr [0,0,0,0,0,0,0,0])),(p2,.box 205 (jr h.l))]) (λj=>j.1<=64/\j.2=yg (bE b 64) h j.1) (λj=>64-j.1) (0,h) ⟨Nat.zero_le _,rfl⟩ ⟨rfl,rfl,rfl,rfl,rfl,rfl,trivial⟩ (.refl _)<|?_
 rintro⟨j,x⟩ ⟨hj,hx⟩
 dsimp only at hj hx⊢
 by_cases hlt:j<64
 ·have hk:=wZ F6 j (by rw[Nv];exact hlt)
  have hw:=ldF (bE b 64) 64 (j:Int) j U (by rw[jM];exact hlt) (by rw[jM];decide)
  rw[FQ _ _ (jM b 64)] at hw
  refine Q.rg<|Q.bi U U U<|Q.nt<|S.sq<|S.cT U (decide_eq_true (by omega))<|UW.skip<|UQ.then<|S.sq<|UW.block<|Q.rg<|Q.mv U<|S.qu (Z.xar yN jQ U U (by omega) (by omega) hk)<|Q.as U<|Q.as U<|Q.nt<|S.sq<|?_
  refine' UW.bG (by kernel_rfl) [0,1,0,4,3,31] [some 22,some 23,some 24,some 25,some 9,some 10] [some (22,_),some (23,_),some (24,_),some (25,_),some (9,_),some (10,_)] [] [1,3] U (by decide) (by decide) (M.free (by decide) U U ?jG (M.held (by decide) U U ?jH (M.free (by decide) U U ?jI (M.held (by decide) U U ?jJ (M.free (by decide) U U ?jK (M.free (by decide) U U ?kE M.nil)))))) ?uH
  case jG=>(intro _;exact Z.FK mM rfl rfl (by omega) (by omega))
  case jH=>exact Z.dM 0 jQ rfl rfl rfl
  case jI=>(intro _;exact Z.FK mM rfl rfl (by omega) (by omega))
  case jJ=>exact Z.dM 0 jQ rfl rfl rfl
  case jK=>(intro _;exact Z.as rfl)
  case kE=>(intro _;exact Z.as rfl)
  refine CH.nil<|?_
  simp only[app,bS]
  refine UQ.then<|S.sq<|?_
  refine' UW.bG (by kernel_rfl) [0,1,0,4,15,0,0,64,224,0,512,0,2048,7680,16352,32767,0,131071,0,262144,786432,2097151,4194303] [some 26,some 27,some 28,some 29,some 30,some 31,some 32,some 33,some 34,some 35,some 36,some 37,some 38,some 39,some 40,some 41,some 42,some 43,some 44,some 45,some 46,some 47,some 11] [some (26,_),some (27,_),some (28,_),some (29,_),some (30,_),some (31,_),some (32,_),some (33,_),some (34,_),some (35,_),some (36,_),some (37,_),some (38,_),some (39,_),some (40,_),some (41,_),some (42,_),some (43,_),some (44,_),some (45,_),some (46,_),some (47,_),some (11,_)] [] [1,7,12,20] U (by decide) (by decide) (M.free (by decide) U U ?PG (M.held (by decide) U U ?PH (M.free (by decide) U U ?PI (M.free (by decide) U U ?PK (M.free (by decide) U U ?PL (M.free (by decide) U U ?PM (M.free (by decide) U U ?PN (M.held (by decide) U U ?PO (M.free (by decide) U U ?q2x1_8 (M.free (by decide) U U ?q2x1_9 (M.free (by decide) U U ?YG (M.free (by decide) U U ?YH (M.held (by decide) U U ?YI (M.free (by decide) U U ?YJ (M.free (by decide) U U ?YK (M.free (by decide) U U ?YL (M.free (by decide) U U ?YM (M.free (by decide) U U ?YN (M.free (by decide) U U ?YO (M.free (by decide) U U ?YP (M.held (by decide) U U ?YQ (M.free (by decide) U U ?YR (M.free (by decide) U U ?YS M.nil))))))))))))))))))))))) ?q2x1_k
  case PG=>(intro _;exact Z.FK mM rfl rfl (by omega) (by omega))
  case PH=>exact Z.dM 0 jQ rfl rfl rfl
  case PI=>(intro _;exact Z.mv rfl)
  case PK=>(intro _;exact Z.call rfl rfl (λ_=>FO _ _ _ _ (by omega) (by omega) (by omega) _))
  case PL=>(intro _;exact Z.rq rfl rfl)
  case PM=>(intro _;exact Z.mv rfl)
  case PN=>(intro _;exact Z.FK mM rfl rfl (by omega) (by omega))
  case PO=>exact Z.dM 0 jQ rfl rfl rfl
  case q2x1_8=>(intro _;exact Z.Io rfl rfl)
  case q2x1_9=>(intro _;exact Z.mv rfl)
  case YG=>(intro _;exact Z.wnot rfl)
  case YH=>(intro _;exact Z.FK mM rfl rfl (by omega) (by omega))
  case YI=>exact Z.dM 0 jQ rfl rfl rfl
  case YJ=>(intro _;exact Z.Io rfl rfl)
  case YK=>(intro _;exact Z.vZ rfl rfl)
  case YL=>(intro _;exact Z.rq rfl rfl)
  case YM=>(intro _;exact Z.mv rfl)
  case YN=>(intro _;exact Z.rq rfl rfl)
  case YO=>(intro _;exact Z.mv rfl)
  case YP=>(intro _;exact Z.FK yN rfl rfl (by omega) (by omega))
  case YQ=>exact Z.dM 1 jQ rfl rfl hw
  case YR=>(intro _;exact Z.rq rfl rfl)
  case YS=>(intro _;exact Z.as rfl)
  refine CH.nil<|?_
  simp only[app,bS]
  refine UQ.then<|S.sq<|?_
  refine' UW.bG (by kernel_rfl) [0,1,0,0,8,28,0,0,128,448,1020,0,2048,0,8192,30720,65532,131071,262143] [some 48,some 49,some 50,some 51,some 52,some 53,some 54,some 55,some 56,some 57,some 58,some 59,some 60,some 61,some 62,some 63,some 64,some 65,some 12] [some (48,_),some (49,_),some (50,_),some (51,_),some (52,_),some (53,_),some (54,_),some (55,_),some (56,_),some (57,_),some (58,_),some (59,_),some (60,_),some (61,_),some (62,_),some (63,_),some (64,_),some (65,_),some (12,_)] [] [4,8,12,14] U (by decide) (by decide) (M.free (by decide) U U ?q2x2_0 (M.free (by decide) U U ?q2x2_1 (M.free (by decide) U U ?q2x2_2 (M.free (by decide) U U ?q2x2_3 (M.held (by decide) U U ?q2x2_4 (M.free (by decide) U U ?q2x2_5 (M.free (by decide) U U ?q2x2_6 (M.free (by decide) U U ?q2x2_7 (M.held (by decide) U U ?q2x2_8 (M.free (by decide) U U ?q2x2_9 (M.free (by decide) U U ?YT (M.free (by decide) U U ?YU (M.held (by decide) U U ?YV (M.free (by decide) U U ?YW (M.held (by decide) U U ?YX (M.free (by decide) U U ?YY (M.free (by decide) U U ?YZ (M.free (by decide) U U ?Y0 (M.free (by decide) U U ?Y1 M.nil))))))))))))))))))) ?q2x2_k
  case q2x2_0=>(intro _;exact Z.mv rfl)
  case q2x2_1=>(intro _;exact Z.call rfl rfl (λ_=>FO _ _ _ _ (by omega) (by omega) (by omega) _))
  case q2x2_2=>(intro _;exact Z.mv rfl)
  case q2x2_3=>(intro _;exact Z.FK mM rfl rfl (by omega) (by omega))
  case q2x2_4=>exact Z.dM 0 jQ rfl rfl rfl
  case q2x2_5=>(intro _;exact Z.Io rfl rfl)
  case q2x2_6=>(intro _;exact Z.mv rfl)
  case q2x2_7=>(intro _;exact Z.FK mM rfl rfl (by omega) (by omega))
  case q2x2_8=>exact Z.dM 0 jQ rfl rfl rfl
  case q2x2_9=>(intro _;exact Z.Io rfl rfl)
  case YT=>(intro _;exact Z.vZ rfl rfl)
  case YU=>(intro _;exact Z.FK mM rfl rfl (by omega) (by omega))
  case YV=>exact Z.dM 0 jQ rfl rfl rfl
  case YW=>(intro _;exact Z.FK mM rfl rfl (by omega) (by omega))
  case YX=>exact Z.dM 0 jQ rfl rfl rfl
  case YY=>(intro _;exact Z.Io rfl rfl)
  case YZ=>(intro _;exact Z.vZ rfl rfl)
  case Y0=>(intro _;exact Z.rq rfl rfl)
  case Y1=>(intro _;exact Z.as rfl)
  refine CH.nil<|?_
  simp only[app,bS]
  refine UQ.then<|S.sq<|?_
  refine' UW.bG (by kernel_rfl) [0,0,3] [some 66,some 67,none] [some (66,_),some (67,_),none] [2] [0,1] U (by decide) (by decide) (M.held (by decide) U U ?q2x3_0 (M.held (by decide) U U ?q2x3_1 (M.skip M.nil))) ?q2x3_k
  case q2x3_0=>exact Z.slb 0 mM rfl rfl (.lo rfl) (by decide) (by decide) (by decide)
  case q2x3_1=>exact Z.slb 0 mM rfl rfl (.hi rfl) (by decide) (by decide) (by decide)
  refine CH.cons U U (by decide)<|D.cpb (m:=7) (aM:=[(p6,.box 205 (jr [x.a,x.a,x.b,x.c,x.d,x.e,x.f,x.g])),(p5,.box 243 (jr (bE b 64))),(p4,.box 205 (jr [0,0,0,0,0,0,0,0])),(p2,.box 205 (jr h.l))]) 0 sl247 U U U U (by show(0+1+7:Nat)<=8;decide) (by show(0+0+7:Nat)<=8;decide) U<|?_
  refine CH.nil<|?_
  simp only[app,bS]
  refine UQ.then<|Q.rg<|S.qu (Z.FK mM U U (by omega) (by omega))<|Q.lc 0 jQ U U U<|Q.mv U<|S.qu (Z.rq U U)<|S.qu (Z.FK mM U U (by omega) (by omega))<|S.s<|D.st 0 jQ U U U U U U U U λ_=>Q.nt<|S.rg<|Q.mv U<|Q.mv U<|S.qu (Z.rq U U)<|S.qu (Z.FK mM U U (by omega) (by omega))<|S.s<|D.st 0 jQ U U U U U U U U λ_=>US.nil<|UQ.aB<|UQ.then<|S.rg<|S.qu (Z.add (r:=((j+1:Nat):Int)) U U (IntWalk.i64_in _ (by omega)))<|Q.mv U<|US.nil<|?_
  refine S.back (j+1,Gh x (F6.getD j 0) ((bE b 64).getD j 0)) ⟨rfl,rfl,rfl,rfl,rfl,rfl,trivial⟩ (.refl _) ?_ (by omega)
  exact⟨by show j+1<=64;omega,by show Gh x _ _=_;rw[hx];rfl⟩
 ·have P7:j=64:=by omega
  subst P7
  refine Q.rg<|Q.bi U U U<|Q.nt<|S.sq<|S.cF U (decide_eq_false (by omega))<|UW.exit<|UQ.pass<|UQ.pass<|UQ.here<|UQ.then<|S.sq<|Q.rg<|Q.mv U<|Q.nt<|UW.block<|S.loop (λm:Nat=>[(79,.v (.int .i64 (m:Int))),(6,.ptr p6 0),(4,.ptr p4 0),(2,.ptr p2 0)]) (λm=>[(p6,.box 205 (jr (yG x h m))),(p4,.box 205 (jr [0,0,0,0,0,0,0,0])),(p2,.box 205 (jr h.l))]) (λm=>m<=8) (λm=>8-m) 0 (Nat.zero_le _) ⟨rfl,rfl,rfl,rfl,trivial⟩ (by exact .cons_cons _ (.cons _ (.refl _)))<|?_
  intro m hm
  by_cases D5:m<8
  ·have e0:0+(m:Int).toNat*1=m:=by omega
   have h84:=wZ (yG x h m) m (by rw[Bd];exact D5)
   rw[RZ x h ⟨m,D5⟩] at h84
   have h87:=wZ h.l m D5
   have hset:=Bb (jr (yG x h m)) m (.v (.int .u32 (rf (x.l.getD m 0) (h.l.getD m 0)))) (by rw[oz,Bd];exact D5)
   rw[FP,Nu x h ⟨m,D5⟩] at hset
   refine Q.rg<|Q.bi U U U<|Q.nt<|S.sq<|S.cT U (decide_eq_true (by omega))<|UW.skip<|UQ.then<|S.sq<|UW.block<|Q.rg<|Q.mv U<|Q.as U<|Q.nt<|?_
   refine' UW.bG (by kernel_rfl) [0,1,3,0,8,24,63,127,255] [some 82,some 83,some 84,some 85,some 86,some 87,some 88,some 89,none] [some (82,_),some (83,_),some (84,_),some (85,_),some (86,_),some (87,_),some (88,_),some (89,_),none] [8] [2,5] U (by decide) (by decide) (M.free (by decide) U U ?nA (M.free (by decide) U U ?nC (M.held (by decide) U U ?nD (M.free (by decide) U U ?nE (M.free (by decide) U U ?qC (M.held (by decide) U U ?qp (M.free (by decide) U U ?qw (M.free (by decide) U U ?qx (M.skip M.nil))))))))) ?Cf
   case nA=>(intro _;exact Z.mv rfl)
   case nC=>(intro _;exact Z.FK mM rfl rfl (by omega) (by omega))
   case nD=>exact Z.dM 0 jQ rfl rfl (by rw[e0];exact h84)
   case nE=>(intro _;exact Z.mv rfl)
   case qC=>(intro _;exact Z.FK mM rfl rfl (by omega) (by omega))
   case qp=>exact Z.dM 2 jQ rfl rfl (by rw[e0];exact h87)
   case qw=>(intro _;exact Z.rq rfl rfl)
   case qx=>(intro _;exact Z.FK mM rfl rfl (by omega) (by omega))
   refine CH.bX U U<|D.st 0 jQ U U U U U U (by rw[e0];exact hset) U λ_=>?_
   refine CH.nil<|?_
   simp only[app,bS]
   refine UQ.aB<|UQ.then<|S.rg<|S.qu (Z.add (r:=((m+1:Nat):Int)) U U (IntWalk.i64_in _ (by omega)))<|Q.mv U<|US.nil<|?_
   refine S.back _ ⟨rfl,rfl,rfl,rfl,trivial⟩ (.refl _) (by omega) (by omega)
  ·have hm8:m=8:=by omega
   subst hm8
   have hfin:yG x h 8=(vU h b).l:=by
    rw[hx]
    unfold vU
    generalize yg (bE b 64) h 64=y
    rfl
   rw[hfin]
   refine Q.rg<|Q.bi U U U<|Q.nt<|S.sq<|S.cF U (decide_eq_false (by omega))<|UW.exit<|UQ.pass<|UQ.pass<|UQ.here<|UQ.then<|Q.rg<|S.qu (Z.bW 0 Di U U U)<|S.s<|D.st 1 Di U U U U U U U U λ_=>Q.nt<|UW.ret<|S.bH (λhd=>BV (k:=1) hd U U U Tryz.underlying205 (by assumption))<|?_
   rfl
theorem Qa(h:W8)(b:List Int)(hl:b.length=64)(hb:fo b)(H:Hp):au Tryz.prog 107 [.sl (encR h.l),.sl (bC b)] H (bB H (.sl (encR (vU h b).l))):=by
 have hhs:=Ei h.l
 refine aF (n:=131) (H0:=H) (I:=[]) Tryz.func107 (by kernel_rfl) U (by rw[Tryz.ntmps107];rfl) .nil<|?_
 refine Q.rg<|Q.as U<|Q.nt<|Q.rg<|Q.mv U<|S.qu (Z.call U U (λ_=>Nt b hl hb _))<|Q.as U<|Q.nt<|Q.rg<|S.qu (Z.call U U (λ_=>P8 _))<|Q.as U<|Q.nt<|Q.rg<|Q.as U<|Q.nt<|Q.rg<|Q.mv U<|Q.mv U<|S.dd<|D.apn wN U U (.sl hhs) (by show 8*4<=140737488355328;decide) λp19=>?_
 refine Q.as U<|Q.nt<|S.sq<|Q.rg<|Q.as U<|Q.nt<|UW.block<|S.loop (λj:Nat×W8×Nat=>[(8,.v (.int .i64 (j.1:Int))),(7,.own j.2.2 0 8 1),(6,.sl (encR F6)),(5,.sl (encR (bE b 64))),(0,.sl (encR h.l))]) (λj=>[(j.2.2,.row 108 1 (encR j.2.1.l))]) (λj=>j.1<=64/\j.2.1=yg (bE b 64) h j.1) (λj=>64-j.1) (0,h,p19) ⟨Nat.zero_le _,rfl⟩ ⟨rfl,rfl,rfl,rfl,rfl,trivial⟩ (.refl _)<|?_
 rintro⟨j,x,r⟩ ⟨hj,hx⟩
 dsimp only at hj hx⊢
 have hxs:=Ei x.l
 by_cases hlt:j<64
 ·have hk:=mO F6 j (by rw[Nv];exact hlt)
  have hw:=mO (bE b 64) j (by rw[jM];exact hlt)
  refine S.sq<|Q.rg<|Q.mv U<|Q.bi U U U<|Q.nt<|S.cT U (decide_eq_true (by omega))<|UW.skip<|UQ.then<|S.sq<|UW.block<|Q.rg<|Q.mv U<|S.qu (Z.io jg U U (by omega) (by omega))<|S.qu (Z.II 0 jo U U (m:=4) U (by assumption) U)<|?_
  refine Q.as U<|Q.nt<|Q.rg<|Q.mv U<|S.qu (Z.io jg U U (by omega) (by omega))<|S.qu (Z.II 0 jo U U (m:=0) U (by assumption) U)<|?_
  refine Q.as U<|Q.nt<|S.sq<|?_
  refine' UW.bG (by kernel_rfl) [0,1,3,0,8,0,56,120,0,376,1016,2047,0,0,8192,24576,61440,0,131072,0,524288,1572864,4063232,8384512,16777215,0,0,100663296,234881024,536870911,0,0,3221225472,7516192768,17179869183,34359738367] [some 30,some 31,some 32,some 33,some 34,some 35,some 36,some 37,some 38,some 39,some 40,some 41,some 42,some 43,some 44,some 45,some 46,some 47,some 48,some 49,some 50,some 51,some 52,some 53,some 54,some 55,some 56,some 57,some 58,some 59,some 60,some 61,some 62,some 63,some 64,some 11] [some (30,_),some (31,_),some (32,_),some (33,_),some (34,_),some (35,_),some (36,_),some (37,_),some (38,_),some (39,_),some (40,_),some (41,_),some (42,_),some (43,_),some (44,_),some (45,_),some (46,_),some (47,_),some (48,_),some (49,_),some (50,_),some (51,_),some (52,_),some (53,_),some (54,_),some (55,_),some (56,_),some (57,_),some (58,_),some (59,_),some (60,_),some (61,_),some (62,_),some (63,_),some (64,_),some (11,_)] [] [2,15,21,28,33] U (by decide) (by decide) (M.free (by decide) U U ?Gj (M.free (by decide) U U ?Gl (M.held (by decide) U U ?Gm (M.free (by decide) U U ?Gn (M.free (by decide) U U ?Gp (M.free (by decide) U U ?Gq (M.free (by decide) U U ?Gr (M.free (by decide) U U ?Gs (M.free (by decide) U U ?Gt (M.free (by decide) U U ?Qb (M.free (by decide) U U ?La (M.free (by decide) U U ?Lb (M.free (by decide) U U ?Lc (M.free (by decide) U U ?Ld (M.free (by decide) U U ?Le (M.held (by decide) U U ?Lf (M.free (by decide) U U ?Lg (M.free (by decide) U U ?Lh (M.free (by decide) U U ?Li (M.free (by decide) U U ?Lj (M.free (by decide) U U ?Ll (M.held (by decide) U U ?Lm (M.free (by decide) U U ?Lp (M.free (by decide) U U ?Lr (M.free (by decide) U U ?Ls (M.free (by decide) U U ?Y2 (M.free (by decide) U U ?Y3 (M.free (by decide) U U ?Y4 (M.held (by decide) U U ?Y5 (M.free (by decide) U U ?Y6 (M.free (by decide) U U ?Y7 (M.free (by decide) U U ?Y8 (M.free (by decide) U U ?Y9 (M.held (by decide) U U ?Za (M.free (by decide) U U ?Zb (M.free (by decide) U U ?Zc M.nil)))))))))))))))))))))))))))))))))))) ?VL
  case Gj=>(intro _;exact Z.mv rfl)
  case Gl=>(intro _;exact Z.io jg rfl rfl (by omega) (by omega))
  case Gm=>exact Z.II 0 jo rfl rfl (m:=7) rfl (by assumption) rfl
  case Gn=>(intro _;exact Z.mv rfl)
  case Gp=>(intro _;exact Z.call rfl rfl (λ_=>jY _ _ (by omega) (by omega) _))
  case Gq=>(intro _;exact Z.mv rfl)
  case Gr=>(intro _;exact Z.call rfl rfl (λ_=>jY _ _ (by omega) (by omega) _))
  case Gs=>(intro _;exact Z.vZ rfl rfl)
  case Gt=>(intro _;exact Z.mv rfl)
  case Qb=>(intro _;exact Z.call rfl rfl (λ_=>jY _ _ (by omega) (by omega) _))
  case La=>(intro _;exact Z.vZ rfl rfl)
  case Lb=>(intro _;exact Z.rq rfl rfl)
  case Lc=>(intro _;exact Z.mv rfl)
  case Ld=>(intro _;exact Z.mv rfl)
  case Le=>(intro _;exact Z.io jg rfl rfl (by omega) (by omega))
  case Lf=>exact Z.II 0 jo rfl rfl (m:=5) rfl (by assumption) rfl
  case Lg=>(intro _;exact Z.Io rfl rfl)
  case Lh=>(intro _;exact Z.mv rfl)
  case Li=>(intro _;exact Z.wnot rfl)
  case Lj=>(intro _;exact Z.mv rfl)
  case Ll=>(intro _;exact Z.io jg rfl rfl (by omega) (by omega))
  case Lm=>exact Z.II 0 jo rfl rfl (m:=6) rfl (by assumption) rfl
  case Lp=>(intro _;exact Z.Io rfl rfl)
  case Lr=>(intro _;exact Z.vZ rfl rfl)
  case Ls=>(intro _;exact Z.rq rfl rfl)
  case Y2=>(intro _;exact Z.mv rfl)
  case Y3=>(intro _;exact Z.mv rfl)
  case Y4=>(intro _;exact Z.ia jg rfl rfl (by omega) hk (by rfl))
  case Y5=>exact Z.fO jo rfl
  case Y6=>(intro _;exact Z.rq rfl rfl)
  case Y7=>(intro _;exact Z.mv rfl)
  case Y8=>(intro _;exact Z.mv rfl)
  case Y9=>(intro _;exact Z.ia jg rfl rfl (by omega) hw (by rfl))
  case Za=>exact Z.fO jo rfl
  case Zb=>(intro _;exact Z.rq rfl rfl)
  case Zc=>(intro _;exact Z.as rfl)
  refine CH.nil<|?_
  simp only[app,bS]
  refine UQ.then<|S.sq<|?_
  refine' UW.bG (by kernel_rfl) [0,1,0,7,15,0,47,127,0,0,512,1536,3840,0,0,16384,49152,122880,261888,0,524288,1572864,0,4194304,12582912,33030144,67108608,134217727,268435455] [some 65,some 66,some 67,some 68,some 69,some 70,some 71,some 72,some 73,some 74,some 75,some 76,some 77,some 78,some 79,some 80,some 81,some 82,some 83,some 84,some 85,some 86,some 87,some 88,some 89,some 90,some 91,some 92,some 12] [some (65,_),some (66,_),some (67,_),some (68,_),some (69,_),some (70,_),some (71,_),some (72,_),some (73,_),some (74,_),some (75,_),some (76,_),some (77,_),some (78,_),some (79,_),some (80,_),some (81,_),some (82,_),some (83,_),some (84,_),some (85,_),some (86,_),some (87,_),some (88,_),some (89,_),some (90,_),some (91,_),some (92,_),some (12,_)] [] [11,16,21,24] U (by decide) (by decide) (M.free (by decide) U U ?Qd (M.free (by decide) U U ?Qe (M.free (by decide) U U ?Qf (M.free (by decide) U U ?Qg (M.free (by decide) U U ?Qh (M.free (by decide) U U ?Qi (M.free (by decide) U U ?Qj (M.free (by decide) U U ?q7x1_7 (M.free (by decide) U U ?q7x1_8 (M.free (by decide) U U ?q7x1_9 (M.free (by decide) U U ?Zd (M.held (by decide) U U ?Ze (M.free (by decide) U U ?Zf (M.free (by decide) U U ?Zg (M.free (by decide) U U ?Zh (M.free (by decide) U U ?Zi (M.held (by decide) U U ?Zj (M.free (by decide) U U ?Zk (M.free (by decide) U U ?Zl (M.free (by decide) U U ?Zm (M.free (by decide) U U ?Zn (M.held (by decide) U U ?Zo (M.free (by decide) U U ?Zp (M.free (by decide) U U ?Zq (M.held (by decide) U U ?Zr (M.free (by decide) U U ?Zt (M.free (by decide) U U ?Zu (M.free (by decide) U U ?Zv (M.free (by decide) U U ?Zw M.nil))))))))))))))))))))))))))))) ?q7x1_k
  case Qd=>(intro _;exact Z.mv rfl)
  case Qe=>(intro _;exact Z.call rfl rfl (λ_=>jY _ _ (by omega) (by omega) _))
  case Qf=>(intro _;exact Z.mv rfl)
  case Qg=>(intro _;exact Z.call rfl rfl (λ_=>jY _ _ (by omega) (by omega) _))
  case Qh=>(intro _;exact Z.vZ rfl rfl)
  case Qi=>(intro _;exact Z.mv rfl)
  case Qj=>(intro _;exact Z.call rfl rfl (λ_=>jY _ _ (by omega) (by omega) _))
  case q7x1_7=>(intro _;exact Z.vZ rfl rfl)
  case q7x1_8=>(intro _;exact Z.mv rfl)
  case q7x1_9=>(intro _;exact Z.mv rfl)
  case Zd=>(intro _;exact Z.io jg rfl rfl (by omega) (by omega))
  case Ze=>exact Z.II 0 jo rfl rfl (m:=1) rfl (by assumption) rfl
  case Zf=>(intro _;exact Z.Io rfl rfl)
  case Zg=>(intro _;exact Z.mv rfl)
  case Zh=>(intro _;exact Z.mv rfl)
  case Zi=>(intro _;exact Z.io jg rfl rfl (by omega) (by omega))
  case Zj=>exact Z.II 0 jo rfl rfl (m:=2) rfl (by assumption) rfl
  case Zk=>(intro _;exact Z.Io rfl rfl)
  case Zl=>(intro _;exact Z.vZ rfl rfl)
  case Zm=>(intro _;exact Z.mv rfl)
  case Zn=>(intro _;exact Z.io jg rfl rfl (by omega) (by omega))
  case Zo=>exact Z.II 0 jo rfl rfl (m:=1) rfl (by assumption) rfl
  case Zp=>(intro _;exact Z.mv rfl)
  case Zq=>(intro _;exact Z.io jg rfl rfl (by omega) (by omega))
  case Zr=>exact Z.II 0 jo rfl rfl (m:=2) rfl (by assumption) rfl
  case Zt=>(intro _;exact Z.Io rfl rfl)
  case Zu=>(intro _;exact Z.vZ rfl rfl)
  case Zv=>(intro _;exact Z.rq rfl rfl)
  case Zw=>(intro _;exact Z.as rfl)
  refine CH.nil<|?_
  simp only[app,bS]
  refine UQ.then<|?_
  refine' UW.bG (by kernel_rfl) [0,0,3,0,0,16,48,0,128,384,0,1024,3072,0,15360,0,0,65536,196608,0,524288,1572864,4194303,8388607] [some 93,some 94,some 95,some 96,some 97,some 98,some 99,some 100,some 101,some 102,some 103,some 104,some 105,some 106,some 107,some 108,some 109,some 110,some 111,some 112,some 113,some 114,none,none] [some (93,_),some (94,_),some (95,_),some (96,_),some (97,_),some (98,_),some (99,_),some (100,_),some (101,_),some (102,_),some (103,_),some (104,_),some (105,_),some (106,_),some (107,_),some (108,_),some (109,_),some (110,_),some (111,_),some (112,_),some (113,_),some (114,_),none,none] [22,23] [6,9,12,18,21] U (by decide) (by decide) (M.free (by decide) U U ?q7x2_0 (M.free (by decide) U U ?q7x2_1 (M.free (by decide) U U ?q7x2_2 (M.free (by decide) U U ?q7x2_3 (M.free (by decide) U U ?q7x2_4 (M.free (by decide) U U ?q7x2_5 (M.held (by decide) U U ?q7x2_6 (M.free (by decide) U U ?q7x2_7 (M.free (by decide) U U ?q7x2_8 (M.held (by decide) U U ?q7x2_9 (M.free (by decide) U U ?Zx (M.free (by decide) U U ?Zy (M.held (by decide) U U ?Zz (M.free (by decide) U U ?ZA (M.free (by decide) U U ?ZB (M.free (by decide) U U ?ZC (M.free (by decide) U U ?ZE (M.free (by decide) U U ?ZF (M.held (by decide) U U ?ZG (M.free (by decide) U U ?ZH (M.free (by decide) U U ?ZI (M.held (by decide) U U ?ZJ (M.skip (M.skip M.nil)))))))))))))))))))))))) ?q7x2_k
  case q7x2_0=>(intro _;exact Z.mv rfl)
  case q7x2_1=>(intro _;exact Z.mv rfl)
  case q7x2_2=>(intro _;exact Z.rq rfl rfl)
  case q7x2_3=>(intro _;exact Z.mv rfl)
  case q7x2_4=>(intro _;exact Z.mv rfl)
  case q7x2_5=>(intro _;exact Z.io jg rfl rfl (by omega) (by omega))
  case q7x2_6=>exact Z.II 0 jo rfl rfl (m:=1) rfl (by assumption) rfl
  case q7x2_7=>(intro _;exact Z.mv rfl)
  case q7x2_8=>(intro _;exact Z.io jg rfl rfl (by omega) (by omega))
  case q7x2_9=>exact Z.II 0 jo rfl rfl (m:=2) rfl (by assumption) rfl
  case Zx=>(intro _;exact Z.mv rfl)
  case Zy=>(intro _;exact Z.io jg rfl rfl (by omega) (by omega))
  case Zz=>exact Z.II 0 jo rfl rfl (m:=3) rfl (by assumption) rfl
  case ZA=>(intro _;exact Z.mv rfl)
  case ZB=>(intro _;exact Z.rq rfl rfl)
  case ZC=>(intro _;exact Z.mv rfl)
  case ZE=>(intro _;exact Z.mv rfl)
  case ZF=>(intro _;exact Z.io jg rfl rfl (by omega) (by omega))
  case ZG=>exact Z.II 0 jo rfl rfl (m:=5) rfl (by assumption) rfl
  case ZH=>(intro _;exact Z.mv rfl)
  case ZI=>(intro _;exact Z.io jg rfl rfl (by omega) (by omega))
  case ZJ=>exact Z.II 0 jo rfl rfl (m:=6) rfl (by assumption) rfl
  refine CH.cons U U (by decide)<|D.lit wN U U (bz U) λp115=>CH.cons U U (by decide)<|D.qu (Z.as U)<|CH.nil<|?_
  simp only[app,bS]
  refine UQ.aB<|UQ.then<|S.rg<|Q.mv U<|S.qu (Z.add (r:=((j+1:Nat):Int)) U U (IntWalk.i64_in _ (by omega)))<|Q.as U<|US.nil<|?_
  refine S.back (j+1,Gh x (F6.getD j 0) ((bE b 64).getD j 0),p115) ⟨rfl,rfl,rfl,rfl,rfl,trivial⟩ (by repeat (first|exact List.Sublist.refl _|exact List.nil_sublist _|refine .cons_cons _ ?_|refine .cons _ ?_)) ?_ (by omega)
  exact⟨by show j+1<=64;omega,by show Gh x _ _=_;rw[hx];rfl⟩
 ·have P7:j=64:=by omega
  subst P7
  refine S.sq<|Q.rg<|Q.mv U<|Q.bi U U U<|Q.nt<|S.cF U (decide_eq_false (by omega))<|UW.exit<|UQ.pass<|UQ.pass<|UQ.here<|UQ.then<|S.sq<|Q.rg<|Q.as U<|Q.nt<|UW.block<|S.loop (λm:Nat=>[(13,.v (.int .i64 (m:Int))),(7,.own r 0 8 1),(0,.sl (encR h.l))]) (λm=>[(r,.row 108 1 (encR (yG x h m)))]) (λm=>m<=8) (λm=>8-m) 0 (Nat.zero_le _) ⟨rfl,rfl,rfl,trivial⟩ (.refl _)<|?_
  intro m hm
  have hms:=Ei (yG x h m)
  have yE:=tC (yG x h m)
  rw[Bd] at yE
  by_cases D5:m<8
  ·have h84:=mO (yG x h m) m (by rw[Bd];exact D5)
   rw[RZ x h ⟨m,D5⟩] at h84
   have h87:=mO h.l m D5
   have hset:(encR (yG x h m)).set m [.v (.int .u32 (rf (x.l.getD m 0) (h.l.getD m 0)))]=encR (yG x h (m+1)):=by
    rw[<-Nu x h ⟨m,D5⟩];unfold encR;rw[List.map_set]
   refine S.sq<|Q.rg<|Q.mv U<|Q.bi U U U<|Q.nt<|S.cT U (decide_eq_true (by omega))<|UW.skip<|UQ.then<|S.sq<|UW.block<|?_
   refine' UW.bG (by kernel_rfl) [0,0,3,7,0,0,48,112,255,511,1023] [some 120,some 121,some 122,some 123,some 124,some 125,some 126,some 127,some 128,some 129,none] [some (120,_),some (121,_),some (122,_),some (123,_),some (124,_),some (125,_),some (126,_),some (127,_),some (128,_),some (129,_),none] [10] [3,7] U (by decide) (by decide) (M.free (by decide) U U ?FR (M.free (by decide) U U ?FT (M.free (by decide) U U ?FU (M.held (by decide) U U ?FV (M.free (by decide) U U ?FW (M.free (by decide) U U ?FX (M.free (by decide) U U ?FY (M.held (by decide) U U ?FZ (M.free (by decide) U U ?F3 (M.free (by decide) U U ?F4 (M.skip M.nil))))))))))) ?VJ
   case FR=>(intro _;exact Z.mv rfl)
   case FT=>(intro _;exact Z.mv rfl)
   case FU=>(intro _;exact Z.io jg rfl rfl (by omega) (by omega))
   case FV=>exact Z.II 0 jo rfl rfl (m:=m) (by omega) hms h84
   case FW=>(intro _;exact Z.mv rfl)
   case FX=>(intro _;exact Z.mv rfl)
   case FY=>(intro _;exact Z.ia jg rfl rfl (by omega) h87 (by rfl))
   case FZ=>exact Z.fO jo rfl
   case F3=>(intro _;exact Z.rq rfl rfl)
   case F4=>(intro _;exact Z.io jg rfl rfl (by omega) (by omega))
   refine CH.bX U U<|D.sre 0 (m:=m) jo U U (by omega) (by omega) U U U U hms hset λ_=>CH.nil<|?_
   simp only[app,bS]
   refine UQ.aB<|UQ.then<|S.rg<|Q.mv U<|S.qu (Z.add (r:=((m+1:Nat):Int)) U U (IntWalk.i64_in _ (by omega)))<|Q.as U<|US.nil<|?_
   refine S.back (m+1) ⟨rfl,rfl,rfl,trivial⟩ (.refl _) (by omega) (by omega)
  ·have hm8:m=8:=by omega
   subst hm8
   have hfin:yG x h 8=(vU h b).l:=by
    rw[hx]
    unfold vU
    generalize yg (bE b 64) h 64=y
    rfl
   rw[hfin]
   refine S.sq<|Q.rg<|Q.mv U<|Q.bi U U U<|Q.nt<|S.cF U (decide_eq_false (by omega))<|UW.exit<|UQ.pass<|UQ.pass<|UQ.here<|UQ.then<|Q.rg<|Q.mv U<|Q.as U<|US.fV 4 0 (rs:=encR (vU h b).l) U U (by rw[tC];exact Nat.le_refl 8) (by rw[List.drop_zero];exact List.take_of_length_le (by rw[tC];exact Nat.le_refl 8))<|?_
   refine Q.nt<|UW.ret<|S.bH (λ_=>ak U U)<|?_
   rfl
end Go.Proofs.YtonpfomjoiaacaaGreatDoor
end
