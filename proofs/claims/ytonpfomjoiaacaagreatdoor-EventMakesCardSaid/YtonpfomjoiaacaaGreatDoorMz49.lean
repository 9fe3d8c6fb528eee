/- A part of the proof. -/
import Derived.Test.YtonpfomjoiaacaaGreatDoorMz48
set_option maxRecDepth 100000
set_option maxHeartbeats 4000000
set_option linter.unusedSectionVars false
set_option linter.unusedVariables false
set_option linter.unusedSimpArgs false
section
namespace Go.Proofs.YtonpfomjoiaacaaGreatDoor
open Go Go.fT Go.RowKit
theorem PD(l:List ByteArray)(j:Nat)(hj:j<l.length):aW ((l.take j).map cK)++[aD (cK l[j])]=aW ((l.take (j+1)).map cK):=by
 rw[eB,eB,List.take_add_one,List.map_append,List.map_append,List.getElem?_eq_getElem hj];rfl
theorem BS(l:List ByteArray)(hl:l.length<=1000000)(H:Hp):au Tryz.prog 47 [strs l] H (bz H (.agg (aD (eX l)))):=by
 have wI:(l.map encS).length=l.length:=List.length_map ..
 refine aF (n:=23) (H0:=H) (I:=[]) Tryz.func47 (by kernel_rfl) U (by rw[Tryz.ntmps47];rfl) .nil ?_
 refine S.sq (S.rg ?_)
 refine S.dd (D.al z26 U U U (λp2=>?_))
 refine US.nil (UQ.then (S.sq (S.rg ?_)))
 refine S.qu (Z.bdp [0] iE U U U U U) ?_
 refine S.dd (D.al z26 U U U (λp3=>?_))
 refine S.s (D.st 0 av U U U U U U U U (λ_=>?_))
 refine US.nil (UQ.then ?_)
 refine UW.qi 0 4 26 (sz:=5) (by decide) U U (λid=>?_)
 refine S.sq (S.sq (S.rg ?_))
 refine S.qu (Z.as U) ?_
 refine US.nil (UQ.then (UW.block ?_))
 refine S.loop (λs:Nat×Nat=>[(4,.v (.int .i64 (s.1:Int))),(3,.ptr p3 0),(2,.ptr p2 0),(0,strs l)]) (λs=>[(s.2,.row 26 5 (aW ((l.take s.1).map cK))),(p3,.box 26 [.v (.int .i64 4),.v (.int .i64 0),.v (.string ⟨#[]⟩),.v (.slice none 0 0),.own s.2 0 s.1 5]),(p2,.box 26 (aD zeroV))]) (λs=>s.1<=l.length) (λs=>l.length-s.1) (0,id) (Nat.zero_le _) ⟨rfl,rfl,rfl,rfl,trivial⟩ (.refl _) ?_
 rintro⟨j,id⟩ hj
 simp only at hj
 simp only
 have hvl:(aW ((l.take j).map cK)).length=j:=by rw[aP,List.length_map,List.length_take];omega
 by_cases hjl:j<l.length
 ·have hg:=eD l j hjl
  have hsn:(aW ((l.take j).map cK)).take j++[aD (cK l[j])]=aW ((l.take (j+1)).map cK):=by rw[List.take_of_length_le (by omega)];exact PD l j hjl
  generalize l[j]=s at*
  refine S.sq (S.sq (S.rg ?_))
  refine S.qu (Z.mv U) ?_
  refine S.qu (Z.mv U) ?_
  refine S.qu (Z.fG aY U) ?_
  refine S.qu (Z.bi U U U) ?_
  refine US.nil (UQ.then ?_)
  refine S.cT U (decide_eq_true (by omega)) ?_
  refine UW.skip (UQ.then (S.sq (UW.block ?_)))
  refine' UW.bG (by kernel_rfl) [0,1,0,0,12,28,60,124,255,511,1023] [some 12,some 13,some 14,some 15,some 16,some 17,some 18,some 19,none,none,none] [some (12,_),some (13,_),some (14,_),some (15,_),some (16,_),some (17,_),some (18,_),some (19,_),none,none,none] [8,9,10] [1,5] U (by decide) (by decide) (M.free (by decide) U U ?iX (M.held (by decide) U U ?iY (M.free (by decide) U U ?iZ (M.free (by decide) U U ?ja (M.free (by decide) U U ?jb (M.held (by decide) U U ?jc (M.free (by decide) U U ?jd (M.free (by decide) U U ?kH (M.skip (M.skip (M.skip M.nil))))))))))) ?sj
  case iX=>(intro _;exact Z.fa bO rfl)
  case iY=>exact Z.di 1 dF rfl rfl rfl
  case iZ=>(intro _;exact Z.mv rfl)
  case ja=>(intro _;exact Z.mv rfl)
  case jb=>(intro _;exact Z.ia aY rfl rfl (by omega) (by assumption) (by rfl))
  case jc=>exact Z.fE ed rfl
  case jd=>(intro _;exact Z.call rfl rfl (λ_=>iM _ _))
  case kH=>(intro _;exact Z.bl iP rfl rfl (bA rfl))
  refine CH.cons U U (by decide) ?_
  refine D.ap 0 iP U U (by omega) U (.sl (by intro cs h;cases List.mem_singleton.1 h;exact Y _)) (by first|omega|(simp;omega)) hsn (λp20=>?_)
  refine CH.cons U U (by decide) ?_
  refine D.qu (Z.fa bO U) ?_
  refine CH.df U U ?_
  refine D.st 1 dF U U U U U U U U (λ_=>?_)
  refine CH.nil ?_
  simp only[app,bV]
  refine UQ.aB (UQ.then (S.rg ?_))
  refine S.qu (Z.mv U) ?_
  refine S.qu (Z.add (r:=((j+1:Nat):Int)) U U (IntWalk.i64_in _ (by omega))) ?_
  refine S.qu (Z.as U) ?_
  refine US.nil ?_
  refine S.back (_,_) ⟨rfl,rfl,rfl,rfl,trivial⟩ (.refl _) (by omega) (by omega)
 ·have he:((aW ((l.take j).map cK)).drop 0).take j=aW (l.map cK):=by rw[List.drop_zero,List.take_of_length_le (by omega),List.take_of_length_le (by omega)]
  refine S.sq (S.sq (S.rg ?_))
  refine S.qu (Z.mv U) ?_
  refine S.qu (Z.mv U) ?_
  refine S.qu (Z.fG aY U) ?_
  refine S.qu (Z.bi U U U) ?_
  refine US.nil (UQ.then ?_)
  refine S.cF U (decide_eq_false (by omega)) ?_
  refine UW.exit (UQ.pass (UQ.pass (UQ.here (UQ.then (S.sq (S.rg ?_))))))
  refine S.qu (Z.dA 1 av U U U) ?_
  refine US.uH 22 4 0 U U U (by omega) he U ?_
  refine S.s (D.st 1 av U U U U U U U U (λ_=>?_))
  refine US.nil (UQ.then (UW.ret ?_))
  refine S.bK (λhd=>aU (k:=1) hd U U U fV fZ) ?_
  rfl
theorem Sn{e:EV}(hs:Sm e)(i:Nat):Fits (dL ((bT e).take i))/\∀s∈(dL ((bT e).take i)).ks,s.size<=4000000:=by
 obtain⟨h1,h2,h3⟩:=hs.pairs
 have he:=zK ((bT e).take i) (λp hp=>(h1 p (List.mem_of_mem_take hp)).2.2)
 exact⟨he.fits (by rw[List.length_take];omega),he.keys⟩
theorem Sq{e:EV}:(e.is=true->dL ((bT e).take 9)=iI e)/\(e.is=false->dL ((bT e).take 8)=iI e):=by
 constructor<;>intro h<;>unfold iI<;>rw[List.take_of_length_le (by unfold bT;rw[h];simp)]
theorem yB(e:EV)(hs:Sm e)(H:Hp):au Tryz.prog 14 [.agg (mZ e)] H (bz H (.agg (aD (dx e)))):=by
 have hpa:∀H,au Tryz.prog 47 [strs e.dH] H (bz H (.agg (aD (eX e.dH)))):=λH=>BS _ (by have:=hs.dH.1;omega) H
 have hpp:∀H,au Tryz.prog 47 [strs e.prev] H (bz H (.agg (aD (eX e.prev)))):=λH=>BS _ (by have:=hs.prev.1;omega) H
 have hF:=Sn hs
 have hw:∀i (p:ByteArray×V),(bT e)[i]? =some p->∀H,au Tryz.prog 18 [.agg (aD (dL ((bT e).take i))),.v (.string p.1),.agg (aD p.2)] H (bz H (.agg (aD (dL ((bT e).take (i+1)))))):=by
  intro i p hp H
  have:=kJ _ (hF i).1 (hF i).2 p.1 p.2 H
  rw[List.take_add_one,hp,Option.toList_some,kK]
  exact this
 have hsd:∀H,au Tryz.prog 17 [.agg (aD (iI e))] H (bz H (.agg (aD (dx e)))):=λH=>Ka _ hs.rd.fits (by
  have:=hF 9
  rw[List.take_of_length_le hs.pairs.2.1] at this
  exact this.2) hs.rd.Gb H
 obtain⟨h9,h8⟩:=Sq (e:=e)
 obtain⟨eid,ty,key,is,sender,room,prev,dH,depth,time,body⟩:=e
 simp only at hpa hpp h9 h8
 generalize dx _=mv at*
 have c0:∀H,au Tryz.prog 18 [.agg (aD Bh),.v (.string gK),.agg (aD (eX dH))] H (bz H (.agg (aD (dL ((bT ⟨eid,ty,key,is,sender,room,prev,dH,depth,time,body⟩).take 1))))):=hw 0 (gK,eX dH) U
 unfold Bh at c0
 have c1:=hw 1 (aQ,body) U
 have c2:=hw 2 (eu,mU depth) U
 have c3:=hw 3 (iR,mU time) U
 have c4:=hw 4 (gV,eX prev) U
 have c5:=hw 5 (gY,cK room) U
 have c6:=hw 6 (bZ,cK sender) U
 have c7:=hw 7 (dK,cK ty) U
 cases is with
 |true=>
  have c8:=hw 8 (dX,cK key) U
  rw[h9 U] at c8
  clear h8 h9 hw hF hs
  simp only[Nat.reduceAdd] at c0 c1 c2 c3 c4 c5 c6 c7 c8
  generalize dL ((bT _).take 1)=f1 at*
  generalize dL ((bT _).take 2)=f2 at*
  generalize dL ((bT _).take 3)=f3 at*
  generalize dL ((bT _).take 4)=f4 at*
  generalize dL ((bT _).take 5)=f5 at*
  generalize dL ((bT _).take 6)=f6 at*
  generalize dL ((bT _).take 7)=f7 at*
  generalize dL ((bT _).take 8)=f8 at*
  generalize iI _=fv at*
  obtain⟨b0,b1,b2,b3,b4⟩:=body
  obtain⟨m0,m1,m2,m3,m4⟩:=mv
  obtain⟨v0,v1,v2,v3,v4⟩:=fv
  obtain⟨k1,n1,t1,ks1,vs1⟩:=f1
  obtain⟨k2,n2,t2,ks2,vs2⟩:=f2
  obtain⟨k3,n3,t3,ks3,vs3⟩:=f3
  obtain⟨k4,n4,t4,ks4,vs4⟩:=f4
  obtain⟨k5,n5,t5,ks5,vs5⟩:=f5
  obtain⟨k6,n6,t6,ks6,vs6⟩:=f6
  obtain⟨k7,n7,t7,ks7,vs7⟩:=f7
  obtain⟨k8,n8,t8,ks8,vs8⟩:=f8
  refine aF (n:=53) (H0:=H) (I:=[]) Tryz.func14 (by kernel_rfl) U (by rw[Tryz.ntmps14];rfl) .nil ?_
  refine S.sq (S.rg ?_)
  refine S.dd (D.box U U U (λp1=>?_))
  refine S.dd (D.al z26 U U U (λp2=>?_))
  refine US.nil (UQ.then (S.sq (S.rg ?_)))
  refine S.qu (Z.bd [0] iE U U U U U U) ?_
  refine S.dd (D.al z26 U U U (λp3=>?_))
  refine S.s (D.st 0 av U U U U U U U U (λ_=>?_))
  refine US.nil (UQ.then (S.sq ?_))
  refine' UW.bG (by kernel_rfl) [0,0,2,6,15,31] [some 5,some 6,some 7,some 8,some 9,none] [some (5,_),some (6,_),some (7,_),some (8,_),some (9,_),none] [5] [0,2] U (by decide) (by decide) (M.held (by decide) U U ?sJ (M.free (by decide) U U ?sK (M.held (by decide) U U ?sM (M.free (by decide) U U ?sN (M.free (by decide) U U ?sO (M.skip M.nil)))))) ?Je
  case sJ=>exact Z.dA 0 av rfl rfl rfl
  case sK=>(intro _;exact Z.fa vG rfl)
  case sM=>exact Z.di 2 dD rfl rfl rfl
  case sN=>(intro _;exact Z.call rfl rfl (λH=>hpa H))
  case sO=>(intro _;exact Z.call rfl rfl (λH=>c0 H))
  refine CH.df U U ?_
  refine D.st 0 av U U U U U U U U (λ_=>?_)
  refine CH.nil ?_
  simp only[app,bV]
  refine UQ.then (S.sq (S.rg ?_))
  refine S.qu (Z.dA 0 av U U U) ?_
  refine S.qu (Z.fa tY U) ?_
  refine S.qu (Z.QJ 2 av U U U) ?_
  refine S.qu (Z.call U U (λH=>c1 H)) ?_
  refine S.s (D.st 0 av U U U U U U U U (λ_=>?_))
  refine US.nil (UQ.then (S.sq ?_))
  refine' UW.bG (by kernel_rfl) [0,0,2,6,15,31] [some 14,some 15,some 16,some 17,some 18,none] [some (14,_),some (15,_),some (16,_),some (17,_),some (18,_),none] [5] [0,2] U (by decide) (by decide) (M.held (by decide) U U ?q3x1_0 (M.free (by decide) U U ?q3x1_1 (M.held (by decide) U U ?q3x1_2 (M.free (by decide) U U ?q3x1_3 (M.free (by decide) U U ?q3x1_4 (M.skip M.nil)))))) ?q3x1_k
  case q3x1_0=>exact Z.dA 0 av rfl rfl rfl
  case q3x1_1=>(intro _;exact Z.fa FD rfl)
  case q3x1_2=>exact Z.di 2 qF rfl rfl rfl
  case q3x1_3=>(intro _;exact Z.call rfl rfl (λ_=>kT _ _))
  case q3x1_4=>(intro _;exact Z.call rfl rfl (λH=>c2 H))
  refine CH.df U U ?_
  refine D.st 0 av U U U U U U U U (λ_=>?_)
  refine CH.nil ?_
  simp only[app,bV]
  refine UQ.then (S.sq ?_)
  refine' UW.bG (by kernel_rfl) [0,0,2,6,15,31] [some 19,some 20,some 21,some 22,some 23,none] [some (19,_),some (20,_),some (21,_),some (22,_),some (23,_),none] [5] [0,2] U (by decide) (by decide) (M.held (by decide) U U ?q3x2_0 (M.free (by decide) U U ?q3x2_1 (M.held (by decide) U U ?q3x2_2 (M.free (by decide) U U ?q3x2_3 (M.free (by decide) U U ?q3x2_4 (M.skip M.nil)))))) ?q3x2_k
  case q3x2_0=>exact Z.dA 0 av rfl rfl rfl
  case q3x2_1=>(intro _;exact Z.fa FE rfl)
  case q3x2_2=>exact Z.di 2 qF rfl rfl rfl
  case q3x2_3=>(intro _;exact Z.call rfl rfl (λ_=>kT _ _))
  case q3x2_4=>(intro _;exact Z.call rfl rfl (λH=>c3 H))
  refine CH.df U U ?_
  refine D.st 0 av U U U U U U U U (λ_=>?_)
  refine CH.nil ?_
  simp only[app,bV]
  refine UQ.then (S.sq ?_)
  refine' UW.bG (by kernel_rfl) [0,0,2,6,15,31] [some 24,some 25,some 26,some 27,some 28,none] [some (24,_),some (25,_),some (26,_),some (27,_),some (28,_),none] [5] [0,2] U (by decide) (by decide) (M.held (by decide) U U ?q3x3_0 (M.free (by decide) U U ?q3x3_1 (M.held (by decide) U U ?q3x3_2 (M.free (by decide) U U ?q3x3_3 (M.free (by decide) U U ?q3x3_4 (M.skip M.nil)))))) ?q3x3_k
  case q3x3_0=>exact Z.dA 0 av rfl rfl rfl
  case q3x3_1=>(intro _;exact Z.fa vF rfl)
  case q3x3_2=>exact Z.di 2 dD rfl rfl rfl
  case q3x3_3=>(intro _;exact Z.call rfl rfl (λH=>hpp H))
  case q3x3_4=>(intro _;exact Z.call rfl rfl (λH=>c4 H))
  refine CH.df U U ?_
  refine D.st 0 av U U U U U U U U (λ_=>?_)
  refine CH.nil ?_
  simp only[app,bV]
  refine UQ.then (S.sq ?_)
  refine' UW.bG (by kernel_rfl) [0,0,2,6,15,31] [some 29,some 30,some 31,some 32,some 33,none] [some (29,_),some (30,_),some (31,_),some (32,_),some (33,_),none] [5] [0,2] U (by decide) (by decide) (M.held (by decide) U U ?q3x4_0 (M.free (by decide) U U ?q3x4_1 (M.held (by decide) U U ?q3x4_2 (M.free (by decide) U U ?q3x4_3 (M.free (by decide) U U ?q3x4_4 (M.skip M.nil)))))) ?q3x4_k
  case q3x4_0=>exact Z.dA 0 av rfl rfl rfl
  case q3x4_1=>(intro _;exact Z.fa FC rfl)
  case q3x4_2=>exact Z.di 2 ed rfl rfl rfl
  case q3x4_3=>(intro _;exact Z.call rfl rfl (λ_=>iM _ _))
  case q3x4_4=>(intro _;exact Z.call rfl rfl (λH=>c5 H))
  refine CH.df U U ?_
  refine D.st 0 av U U U U U U U U (λ_=>?_)
  refine CH.nil ?_
  simp only[app,bV]
  refine UQ.then (S.sq ?_)
  refine' UW.bG (by kernel_rfl) [0,0,2,6,15,31] [some 34,some 35,some 36,some 37,some 38,none] [some (34,_),some (35,_),some (36,_),some (37,_),some (38,_),none] [5] [0,2] U (by decide) (by decide) (M.held (by decide) U U ?q3x5_0 (M.free (by decide) U U ?q3x5_1 (M.held (by decide) U U ?q3x5_2 (M.free (by decide) U U ?q3x5_3 (M.free (by decide) U U ?q3x5_4 (M.skip M.nil)))))) ?q3x5_k
  case q3x5_0=>exact Z.dA 0 av rfl rfl rfl
  case q3x5_1=>(intro _;exact Z.fa FB rfl)
  case q3x5_2=>exact Z.di 2 ed rfl rfl rfl
  case q3x5_3=>(intro _;exact Z.call rfl rfl (λ_=>iM _ _))
  case q3x5_4=>(intro _;exact Z.call rfl rfl (λH=>c6 H))
  refine CH.df U U ?_
  refine D.st 0 av U U U U U U U U (λ_=>?_)
  refine CH.nil ?_
  simp only[app,bV]
  refine UQ.then (S.sq ?_)
  refine' UW.bG (by kernel_rfl) [0,0,2,6,15,31] [some 39,some 40,some 41,some 42,some 43,none] [some (39,_),some (40,_),some (41,_),some (42,_),some (43,_),none] [5] [0,2] U (by decide) (by decide) (M.held (by decide) U U ?q3x6_0 (M.free (by decide) U U ?q3x6_1 (M.held (by decide) U U ?q3x6_2 (M.free (by decide) U U ?q3x6_3 (M.free (by decide) U U ?q3x6_4 (M.skip M.nil)))))) ?q3x6_k
  case q3x6_0=>exact Z.dA 0 av rfl rfl rfl
  case q3x6_1=>(intro _;exact Z.fa Fz rfl)
  case q3x6_2=>exact Z.di 2 ed rfl rfl rfl
  case q3x6_3=>(intro _;exact Z.call rfl rfl (λ_=>iM _ _))
  case q3x6_4=>(intro _;exact Z.call rfl rfl (λH=>c7 H))
  refine CH.df U U ?_
  refine D.st 0 av U U U U U U U U (λ_=>?_)
  refine CH.nil ?_
  simp only[app,bV]
  refine UQ.then (S.sq (S.sq (S.rg ?_)))
  refine S.qu (Z.fa kW U) ?_
  refine S.qu (Z.di 2 oo U U U) ?_
  refine US.nil (UQ.then ?_)
  refine S.cT U U ?_
  refine' UW.bG (by kernel_rfl) [0,0,2,6,15,31] [some 46,some 47,some 48,some 49,some 50,none] [some (46,_),some (47,_),some (48,_),some (49,_),some (50,_),none] [5] [0,2] U (by decide) (by decide) (M.held (by decide) U U ?q3x7_0 (M.free (by decide) U U ?q3x7_1 (M.held (by decide) U U ?q3x7_2 (M.free (by decide) U U ?q3x7_3 (M.free (by decide) U U ?q3x7_4 (M.skip M.nil)))))) ?q3x7_k
  case q3x7_0=>exact Z.dA 0 av rfl rfl rfl
  case q3x7_1=>(intro _;exact Z.fa wZ rfl)
  case q3x7_2=>exact Z.di 2 ed rfl rfl rfl
  case q3x7_3=>(intro _;exact Z.call rfl rfl (λ_=>iM _ _))
  case q3x7_4=>(intro _;exact Z.call rfl rfl (λH=>c8 H))
  refine CH.df U U ?_
  refine D.st 0 av U U U U U U U U (λ_=>?_)
  refine CH.nil ?_
  simp only[app,bV]
  refine UQ.then (S.sq (S.rg ?_))
  refine S.qu (Z.dA 0 av U U U) ?_
  refine S.qu (Z.call U U (λH=>hsd H)) ?_
  refine S.s (D.st 1 av U U U U U U U U (λ_=>?_))
  refine US.nil (UQ.then (UW.ret ?_))
  refine S.bK (λhd=>aU (k:=1) hd U U U fV fZ) ?_
  rfl
 |false=>
  rw[h8 U] at c7
  clear h8 h9 hw hF hs
  simp only[Nat.reduceAdd] at c0 c1 c2 c3 c4 c5 c6 c7
  generalize dL ((bT _).take 1)=f1 at*
  generalize dL ((bT _).take 2)=f2 at*
  generalize dL ((bT _).take 3)=f3 at*
  generalize dL ((bT _).take 4)=f4 at*
  generalize dL ((bT _).take 5)=f5 at*
  generalize dL ((bT _).take 6)=f6 at*
  generalize dL ((bT _).take 7)=f7 at*
  generalize iI _=fv at*
  obtain⟨b0,b1,b2,b3,b4⟩:=body
  obtain⟨m0,m1,m2,m3,m4⟩:=mv
  obtain⟨v0,v1,v2,v3,v4⟩:=fv
  obtain⟨k1,n1,t1,ks1,vs1⟩:=f1
  obtain⟨k2,n2,t2,ks2,vs2⟩:=f2
  obtain⟨k3,n3,t3,ks3,vs3⟩:=f3
  obtain⟨k4,n4,t4,ks4,vs4⟩:=f4
  obtain⟨k5,n5,t5,ks5,vs5⟩:=f5
  obtain⟨k6,n6,t6,ks6,vs6⟩:=f6
  obtain⟨k7,n7,t7,ks7,vs7⟩:=f7
  refine aF (n:=53) (H0:=H) (I:=[]) Tryz.func14 (by kernel_rfl) U (by rw[Tryz.ntmps14];rfl) .nil ?_
  refine S.sq (S.rg ?_)
  refine S.dd (D.box U U U (λp1=>?_))
  refine S.dd (D.al z26 U U U (λp2=>?_))
  refine US.nil (UQ.then (S.sq (S.rg ?_)))
  refine S.qu (Z.bd [0] iE U U U U U U) ?_
  refine S.dd (D.al z26 U U U (λp3=>?_))
  refine S.s (D.st 0 av U U U U U U U U (λ_=>?_))
  refine US.nil (UQ.then (S.sq ?_))
  refine' UW.bG (by kernel_rfl) [0,0,2,6,15,31] [some 5,some 6,some 7,some 8,some 9,none] [some (5,_),some (6,_),some (7,_),some (8,_),some (9,_),none] [5] [0,2] U (by decide) (by decide) (M.held (by decide) U U ?lZ (M.free (by decide) U U ?l5 (M.held (by decide) U U ?l6 (M.free (by decide) U U ?l7 (M.free (by decide) U U ?o7 (M.skip M.nil)))))) ?Am
  case lZ=>exact Z.dA 0 av rfl rfl rfl
  case l5=>(intro _;exact Z.fa vG rfl)
  case l6=>exact Z.di 2 dD rfl rfl rfl
  case l7=>(intro _;exact Z.call rfl rfl (λH=>hpa H))
  case o7=>(intro _;exact Z.call rfl rfl (λH=>c0 H))
  refine CH.df U U ?_
  refine D.st 0 av U U U U U U U U (λ_=>?_)
  refine CH.nil ?_
  simp only[app,bV]
  refine UQ.then (S.sq (S.rg ?_))
  refine S.qu (Z.dA 0 av U U U) ?_
  refine S.qu (Z.fa tY U) ?_
  refine S.qu (Z.QJ 2 av U U U) ?_
  refine S.qu (Z.call U U (λH=>c1 H)) ?_
  refine S.s (D.st 0 av U U U U U U U U (λ_=>?_))
  refine US.nil (UQ.then (S.sq ?_))
  refine' UW.bG (by kernel_rfl) [0,0,2,6,15,31] [some 14,some 15,some 16,some 17,some 18,none] [some (14,_),some (15,_),some (16,_),some (17,_),some (18,_),none] [5] [0,2] U (by decide) (by decide) (M.held (by decide) U U ?O7 (M.free (by decide) U U ?O8 (M.held (by decide) U U ?O9 (M.free (by decide) U U ?Pb (M.free (by decide) U U ?Pd (M.skip M.nil)))))) ?q4x1_k
  case O7=>exact Z.dA 0 av rfl rfl rfl
  case O8=>(intro _;exact Z.fa FD rfl)
  case O9=>exact Z.di 2 qF rfl rfl rfl
  case Pb=>(intro _;exact Z.call rfl rfl (λ_=>kT _ _))
  case Pd=>(intro _;exact Z.call rfl rfl (λH=>c2 H))
  refine CH.df U U ?_
  refine D.st 0 av U U U U U U U U (λ_=>?_)
  refine CH.nil ?_
  simp only[app,bV]
  refine UQ.then (S.sq ?_)
  refine' UW.bG (by kernel_rfl) [0,0,2,6,15,31] [some 19,some 20,some 21,some 22,some 23,none] [some (19,_),some (20,_),some (21,_),some (22,_),some (23,_),none] [5] [0,2] U (by decide) (by decide) (M.held (by decide) U U ?q4x2_0 (M.free (by decide) U U ?q4x2_1 (M.held (by decide) U U ?q4x2_2 (M.free (by decide) U U ?q4x2_3 (M.free (by decide) U U ?q4x2_4 (M.skip M.nil)))))) ?q4x2_k
  case q4x2_0=>exact Z.dA 0 av rfl rfl rfl
  case q4x2_1=>(intro _;exact Z.fa FE rfl)
  case q4x2_2=>exact Z.di 2 qF rfl rfl rfl
  case q4x2_3=>(intro _;exact Z.call rfl rfl (λ_=>kT _ _))
  case q4x2_4=>(intro _;exact Z.call rfl rfl (λH=>c3 H))
  refine CH.df U U ?_
  refine D.st 0 av U U U U U U U U (λ_=>?_)
  refine CH.nil ?_
  simp only[app,bV]
  refine UQ.then (S.sq ?_)
  refine' UW.bG (by kernel_rfl) [0,0,2,6,15,31] [some 24,some 25,some 26,some 27,some 28,none] [some (24,_),some (25,_),some (26,_),some (27,_),some (28,_),none] [5] [0,2] U (by decide) (by decide) (M.held (by decide) U U ?q4x3_0 (M.free (by decide) U U ?q4x3_1 (M.held (by decide) U U ?q4x3_2 (M.free (by decide) U U ?q4x3_3 (M.free (by decide) U U ?q4x3_4 (M.skip M.nil)))))) ?q4x3_k
  case q4x3_0=>exact Z.dA 0 av rfl rfl rfl
  case q4x3_1=>(intro _;exact Z.fa vF rfl)
  case q4x3_2=>exact Z.di 2 dD rfl rfl rfl
  case q4x3_3=>(intro _;exact Z.call rfl rfl (λH=>hpp H))
  case q4x3_4=>(intro _;exact Z.call rfl rfl (λH=>c4 H))
  refine CH.df U U ?_
  refine D.st 0 av U U U U U U U U (λ_=>?_)
  refine CH.nil ?_
  simp only[app,bV]
  refine UQ.then (S.sq ?_)
  refine' UW.bG (by kernel_rfl) [0,0,2,6,15,31] [some 29,some 30,some 31,some 32,some 33,none] [some (29,_),some (30,_),some (31,_),some (32,_),some (33,_),none] [5] [0,2] U (by decide) (by decide) (M.held (by decide) U U ?q4x4_0 (M.free (by decide) U U ?q4x4_1 (M.held (by decide) U U ?q4x4_2 (M.free (by decide) U U ?q4x4_3 (M.free (by decide) U U ?q4x4_4 (M.skip M.nil)))))) ?q4x4_k
  case q4x4_0=>exact Z.dA 0 av rfl rfl rfl
  case q4x4_1=>(intro _;exact Z.fa FC rfl)
  case q4x4_2=>exact Z.di 2 ed rfl rfl rfl
  case q4x4_3=>(intro _;exact Z.call rfl rfl (λ_=>iM _ _))
  case q4x4_4=>(intro _;exact Z.call rfl rfl (λH=>c5 H))
  refine CH.df U U ?_
  refine D.st 0 av U U U U U U U U (λ_=>?_)
  refine CH.nil ?_
  simp only[app,bV]
  refine UQ.then (S.sq ?_)
  refine' UW.bG (by kernel_rfl) [0,0,2,6,15,31] [some 34,some 35,some 36,some 37,some 38,none] [some (34,_),some (35,_),some (36,_),some (37,_),some (38,_),none] [5] [0,2] U (by decide) (by decide) (M.held (by decide) U U ?q4x5_0 (M.free (by decide) U U ?q4x5_1 (M.held (by decide) U U ?q4x5_2 (M.free (by decide) U U ?q4x5_3 (M.free (by decide) U U ?q4x5_4 (M.skip M.nil)))))) ?q4x5_k
  case q4x5_0=>exact Z.dA 0 av rfl rfl rfl
  case q4x5_1=>(intro _;exact Z.fa FB rfl)
  case q4x5_2=>exact Z.di 2 ed rfl rfl rfl
  case q4x5_3=>(intro _;exact Z.call rfl rfl (λ_=>iM _ _))
  case q4x5_4=>(intro _;exact Z.call rfl rfl (λH=>c6 H))
  refine CH.df U U ?_
  refine D.st 0 av U U U U U U U U (λ_=>?_)
  refine CH.nil ?_
  simp only[app,bV]
  refine UQ.then (S.sq ?_)
  refine' UW.bG (by kernel_rfl) [0,0,2,6,15,31] [some 39,some 40,some 41,some 42,some 43,none] [some (39,_),some (40,_),some (41,_),some (42,_),some (43,_),none] [5] [0,2] U (by decide) (by decide) (M.held (by decide) U U ?q4x6_0 (M.free (by decide) U U ?q4x6_1 (M.held (by decide) U U ?q4x6_2 (M.free (by decide) U U ?q4x6_3 (M.free (by decide) U U ?q4x6_4 (M.skip M.nil)))))) ?q4x6_k
  case q4x6_0=>exact Z.dA 0 av rfl rfl rfl
  case q4x6_1=>(intro _;exact Z.fa Fz rfl)
  case q4x6_2=>exact Z.di 2 ed rfl rfl rfl
  case q4x6_3=>(intro _;exact Z.call rfl rfl (λ_=>iM _ _))
  case q4x6_4=>(intro _;exact Z.call rfl rfl (λH=>c7 H))
  refine CH.df U U ?_
  refine D.st 0 av U U U U U U U U (λ_=>?_)
  refine CH.nil ?_
  simp only[app,bV]
  refine UQ.then (S.sq (S.sq (S.rg ?_)))
  refine S.qu (Z.fa kW U) ?_
  refine S.qu (Z.di 2 oo U U U) ?_
  refine US.nil (UQ.then ?_)
  refine S.cF U U ?_
  refine UW.skip (UQ.then (S.sq (S.rg ?_)))
  refine S.qu (Z.dA 0 av U U U) ?_
  refine S.qu (Z.call U U (λH=>hsd H)) ?_
  refine S.s (D.st 1 av U U U U U U U U (λ_=>?_))
  refine US.nil (UQ.then (UW.ret ?_))
  refine S.bK (λhd=>aU (k:=1) hd U U U fV fZ) ?_
  rfl
theorem zU(e:EV)(hs:Sm e)(H:Hp):au Tryz.prog 31 [.agg (mZ e)] H (bz H (.agg (mZ {e with id:=zW (dx e)}))):=by
 have hm:∀H,au Tryz.prog 14 [.agg (mZ e)] H (bz H (.agg (aD (dx e)))):=λH=>yB e hs H
 have hi:∀H,au Tryz.prog 79 [.agg (aD (dx e))] H (bz H (.v (.string (zW (dx e))))):=λH=>UZ _ hs.make.fits hs.make.prR (YK λ_=>⟨UU e,λ_=>by have h:=(Bj e).body;rw[h];exact hs.o⟩) H
 generalize zW (dx e)=i at*
 generalize dx e=m at*
 obtain⟨eid,ty,key,is,sender,room,prev,dH,depth,time,body⟩:=e
 clear hs
 obtain⟨m0,m1,m2,m3,m4⟩:=m
 obtain⟨b0,b1,b2,b3,b4⟩:=body
 refine aF (n:=8) (H0:=H) (I:=[]) Tryz.func31 (by kernel_rfl) U (by rw[Tryz.ntmps31];rfl) .nil ?_
 refine S.sq (S.rg ?_)
 refine S.dd (D.box U U U (λp1=>?_))
 refine S.dd (D.al z28 U U U (λp2=>?_))
 refine US.nil (UQ.then (S.sq (S.rg ?_)))
 refine S.qu (Z.dA 1 gy U U U) ?_
 refine S.qu (Z.call U U (λH=>hm H)) ?_
 refine S.qu (Z.call U U (λH=>hi H)) ?_
 refine S.qu (Z.fa wY U) ?_
 refine S.s (D.st 1 ed U U U U U U U U (λ_=>?_))
 refine US.nil (UQ.then (S.sq (S.rg ?_)))
 refine S.qu (Z.dA 1 gy U U U) ?_
 refine S.s (D.st 0 gy U U U U U U U U (λ_=>?_))
 refine US.nil (UQ.then (UW.ret ?_))
 refine S.bK (λhd=>aU (k:=0) hd U U U Gc Gd) ?_
 rfl
theorem Km(e:EV)(hs:Sm e)(H:Hp):au Tryz.prog 30 [.agg (mZ e)] H (bz H (.v (.string (aO (dx e))))):=by
 have hm:∀H,au Tryz.prog 14 [.agg (mZ e)] H (bz H (.agg (aD (dx e)))):=λH=>yB e hs H
 have hi:∀H,au Tryz.prog 37 [.agg (aD (dx e))] H (bz H (.v (.string (aO (dx e))))):=λH=>vw _ hs.make.fits hs.make.pr H
 generalize aO (dx e)=i at*
 generalize dx e=m at*
 obtain⟨eid,ty,key,is,sender,room,prev,dH,depth,time,body⟩:=e
 clear hs
 obtain⟨m0,m1,m2,m3,m4⟩:=m
 obtain⟨b0,b1,b2,b3,b4⟩:=body
 refine aF (n:=6) (H0:=H) (I:=[]) Tryz.func30 (by kernel_rfl) U (by rw[Tryz.ntmps30];rfl) .nil ?_
 refine S.sq (S.rg ?_)
 refine S.dd (D.box U U U (λp1=>?_))
 refine S.qu (Z.as U) ?_
 refine US.nil (UQ.then (S.sq (S.rg ?_)))
 refine S.qu (Z.dA 0 gy U U U) ?_
 refine S.qu (Z.call U U (λH=>hm H)) ?_
 refine S.qu (Z.call U U (λH=>hi H)) ?_
 refine S.qu (Z.as U) ?_
 refine US.nil (UQ.then (UW.ret ?_))
 refine S.bK (λ_=>ak U U) ?_
 rfl
theorem vJ(a b:EV)(ha:a.prev.length<=1000)(hb:a.dH.length<=1000)(hc:Fits a.body)(H:Hp):au Tryz.prog 21 [.agg (mZ a),.agg (mZ b)] H (bz H (.v (.bool (Fw a b)))):=by
 have h1:∀H,au Tryz.prog 71 [strs a.prev,strs b.prev] H (bz H (.v (.bool (kX r9 a.prev b.prev)))):=λH=>qC _ _ (by omega) H
 have h2:∀H,au Tryz.prog 71 [strs a.dH,strs b.dH] H (bz H (.v (.bool (kX r9 a.dH b.dH)))):=λH=>qC _ _ (by omega) H
 have h3:∀H,au Tryz.prog 28 [.agg (aD a.body),.agg (aD b.body)] H (bz H (.v (.bool (gp a.body b.body)))):=λH=>DI _ hc _ H
 unfold Fw
 obtain⟨i1,t1,k1,s1,u1,r1,p1,a1,d1,m1,b1⟩:=a
 obtain⟨i2,t2,k2,s2,u2,r2,p2,a2,d2,m2,b2⟩:=b
 simp only at*
 generalize kX r9 p1 p2=e1 at*
 generalize kX r9 a1 a2=e2 at*
 generalize gp b1 b2=e3 at*
 obtain⟨x1,x2,x3,x4,x5⟩:=b1
 obtain⟨y1,y2,y3,y4,y5⟩:=b2
 refine aF (n:=80) (H0:=H) (I:=[]) Tryz.func21 (by kernel_rfl) U (by rw[Tryz.ntmps21];rfl) .nil ?_
 focus
  refine S.sq (S.rg ?_)
  refine S.dd (D.box U U U (λp2=>?_))
  refine S.dd (D.box U U U (λp3=>?_))
  refine S.qu (Z.as U) ?_
  refine US.nil (UQ.then (S.sq (S.rg ?_)))
  refine S.qu (Z.fa wY U) ?_
  refine S.qu (Z.di 1 ed U U U) ?_
  refine S.qu (Z.fa wY U) ?_
  refine S.qu (Z.di 0 ed U U U) ?_
  refine S.qu (Z.bs U U U) ?_
  refine S.qu (Z.mv U) ?_
  refine S.tE 10 (λxH=>?_) (λxH=>?_)
  refine S.qu (Z.on (Z.fa Fz U)) ?_
  refine S.qu (Z.on (Z.di 1 ed U U U)) ?_
  refine S.qu (Z.on (Z.fa Fz U)) ?_
  refine S.qu (Z.on (Z.di 0 ed U U U)) ?_
  refine S.qu (Z.on (Z.bs U U U)) ?_
  refine S.qu (Z.pick U U) ?_
  refine S.qu (Z.mv U) ?_
  refine S.tE 17 (λhc17=>?_) (λhc17=>?_)
  refine S.qu (Z.on (Z.fa wZ U)) ?_
  refine S.qu (Z.on (Z.di 1 ed U U U)) ?_
  refine S.qu (Z.on (Z.fa wZ U)) ?_
  refine S.qu (Z.on (Z.di 0 ed U U U)) ?_
  refine S.qu (Z.on (Z.bs U U U)) ?_
  refine S.qu (Z.pick U U) ?_
  refine S.qu (Z.mv U) ?_
  refine S.tE 24 (λhc24=>?_) (λhc24=>?_)
  refine S.qu (Z.on (Z.fa kW U)) ?_
  refine S.qu (Z.on (Z.di 1 oo U U U)) ?_
  refine S.qu (Z.on (Z.fa kW U)) ?_
  refine S.qu (Z.on (Z.di 0 oo U U U)) ?_
  refine S.qu (Z.on (Z.beq Tryz.underlying4 U U)) ?_
  refine S.qu (Z.pick U U) ?_
  refine S.qu (Z.mv U) ?_
  refine S.tE 31 (λhc31=>?_) (λhc31=>?_)
  refine S.qu (Z.on (Z.fa FB U)) ?_
  refine S.qu (Z.on (Z.di 1 ed U U U)) ?_
  refine S.qu (Z.on (Z.fa FB U)) ?_
  refine S.qu (Z.on (Z.di 0 ed U U U)) ?_
  refine S.qu (Z.on (Z.bs U U U)) ?_
  refine S.qu (Z.pick U U) ?_
  refine S.qu (Z.mv U) ?_
  refine S.tE 38 (λhc38=>?_) (λhc38=>?_)
  refine S.qu (Z.on (Z.fa FC U)) ?_
  refine S.qu (Z.on (Z.di 1 ed U U U)) ?_
  refine S.qu (Z.on (Z.fa FC U)) ?_
  refine S.qu (Z.on (Z.di 0 ed U U U)) ?_
  refine S.qu (Z.on (Z.bs U U U)) ?_
  refine S.qu (Z.pick U U) ?_
  refine S.qu (Z.mv U) ?_
  refine S.tE 45 (λab2=>?_) (λab2=>?_)
  refine S.qu (Z.on (Z.fa FD U)) ?_
  refine S.qu (Z.on (Z.di 1 qF U U U)) ?_
  refine S.qu (Z.on (Z.fa FD U)) ?_
  refine S.qu (Z.on (Z.di 0 qF U U U)) ?_
  refine S.qu (Z.on (Z.bi U U U)) ?_
  refine S.qu (Z.pick U U) ?_
  refine S.qu (Z.mv U) ?_
  refine S.tE 52 (λhc52=>?_) (λhc52=>?_)
  refine S.qu (Z.on (Z.fa FE U)) ?_
  refine S.qu (Z.on (Z.di 1 qF U U U)) ?_
  refine S.qu (Z.on (Z.fa FE U)) ?_
  refine S.qu (Z.on (Z.di 0 qF U U U)) ?_
  refine S.qu (Z.on (Z.bi U U U)) ?_
  refine S.qu (Z.pick U U) ?_
  refine S.qu (Z.mv U) ?_
  refine S.tE 59 (λaaH=>?_) (λaaH=>?_)
  refine S.qu (Z.on (Z.fa vF U)) ?_
  refine S.qu (Z.on (Z.di 1 dD U U U)) ?_
  refine S.qu (Z.on (Z.fa vF U)) ?_
  refine S.qu (Z.on (Z.di 0 dD U U U)) ?_
  refine S.qu (Z.on (Z.call U U (λH=>h1 H))) ?_
  refine S.qu (Z.pick U U) ?_
  refine S.qu (Z.mv U) ?_
  refine S.tB 66 (λhc66=>?_) (λhc66=>?_)
  refine S.qu (Z.on (Z.fa vG U)) ?_
  refine S.qu (Z.on (Z.di 1 dD U U U)) ?_
  refine S.qu (Z.on (Z.fa vG U)) ?_
  refine S.qu (Z.on (Z.di 0 dD U U U)) ?_
  refine S.qu (Z.on (Z.call U U (λH=>h2 H))) ?_
  refine S.qu (Z.pick U U) ?_
  refine S.qu (Z.mv U) ?_
  refine S.tB 73 (λhc73=>?_) (λhc73=>?_)
  refine S.qu (Z.on (Z.fa tY U)) ?_
  refine S.qu (Z.on (Z.QJ 1 av U U U)) ?_
  refine S.qu (Z.on (Z.fa tY U)) ?_
  refine S.qu (Z.on (Z.QJ 0 av U U U)) ?_
  refine S.qu (Z.on (Z.call U U (λH=>h3 H))) ?_
  refine S.qu (Z.pick U U) ?_
  refine S.qu (Z.as U) ?_
  refine US.nil (UQ.then (UW.ret ?_))
  refine S.bK (λ_=>ak U U) ?_
  rotate_left
  refine S.qu (Z.of) ?_
  refine S.qu (Z.of) ?_
  refine S.qu (Z.of) ?_
  refine S.qu (Z.of) ?_
  refine S.qu (Z.of) ?_
  refine S.qu (Z.pick U U) ?_
  refine S.qu (Z.as U) ?_
  refine US.nil (UQ.then (UW.ret ?_))
  refine S.bK (λ_=>ak U U) ?_
  rotate_left
  refine S.qu (Z.of) ?_
  refine S.qu (Z.of) ?_
  refine S.qu (Z.of) ?_
  refine S.qu (Z.of) ?_
  refine S.qu (Z.of) ?_
  refine S.qu (Z.pick U U) ?_
  refine S.qu (Z.mv U) ?_
  refine S.qu (Z.of) ?_
  refine S.qu (Z.of) ?_
  refine S.qu (Z.of) ?_
  refine S.qu (Z.of) ?_
  refine S.qu (Z.of) ?_
  refine S.qu (Z.pick U U) ?_
  refine S.qu (Z.as U) ?_
  refine US.nil (UQ.then (UW.ret ?_))
  refine S.bK (λ_=>ak U U) ?_
  rotate_left
  refine S.qu (Z.of) ?_
  refine S.qu (Z.of) ?_
  refine S.qu (Z.of) ?_
  refine S.qu (Z.of) ?_
  refine S.qu (Z.of) ?_
  refine S.qu (Z.pick U U) ?_
  refine S.qu (Z.mv U) ?_
  refine S.qu (Z.of) ?_
  refine S.qu (Z.of) ?_
  refine S.qu (Z.of) ?_
  refine S.qu (Z.of) ?_
  refine S.qu (Z.of) ?_
  refine S.qu (Z.pick U U) ?_
  refine S.qu (Z.mv U) ?_
  refine S.qu (Z.of) ?_
  refine S.qu (Z.of) ?_
  refine S.qu (Z.of) ?_
  refine S.qu (Z.of) ?_
  refine S.qu (Z.of) ?_
  refine S.qu (Z.pick U U) ?_
  refine S.qu (Z.as U) ?_
  refine US.nil (UQ.then (UW.ret ?_))
  refine S.bK (λ_=>ak U U) ?_
  rotate_left
  refine S.qu (Z.of) ?_
  refine S.qu (Z.of) ?_
  refine S.qu (Z.of) ?_
  refine S.qu (Z.of) ?_
  refine S.qu (Z.of) ?_
  refine S.qu (Z.pick U U) ?_
  refine S.qu (Z.mv U) ?_
  refine S.qu (Z.of) ?_
  refine S.qu (Z.of) ?_
  refine S.qu (Z.of) ?_
  refine S.qu (Z.of) ?_
  refine S.qu (Z.of) ?_
  refine S.qu (Z.pick U U) ?_
  refine S.qu (Z.mv U) ?_
  refine S.qu (Z.of) ?_
  refine S.qu (Z.of) ?_
  refine S.qu (Z.of) ?_
  refine S.qu (Z.of) ?_
  refine S.qu (Z.of) ?_
  refine S.qu (Z.pick U U) ?_
  refine S.qu (Z.mv U) ?_
  refine S.qu (Z.of) ?_
  refine S.qu (Z.of) ?_
  refine S.qu (Z.of) ?_
  refine S.qu (Z.of) ?_
  refine S.qu (Z.of) ?_
  refine S.qu (Z.pick U U) ?_
  refine S.qu (Z.as U) ?_
  refine US.nil (UQ.then (UW.ret ?_))
  refine S.bK (λ_=>ak U U) ?_
  rotate_left
  refine S.qu (Z.of) ?_
  refine S.qu (Z.of) ?_
  refine S.qu (Z.of) ?_
  refine S.qu (Z.of) ?_
  refine S.qu (Z.of) ?_
  refine S.qu (Z.pick U U) ?_
  refine S.qu (Z.mv U) ?_
  refine S.qu (Z.of) ?_
  refine S.qu (Z.of) ?_
  refine S.qu (Z.of) ?_
  refine S.qu (Z.of) ?_
  refine S.qu (Z.of) ?_
  refine S.qu (Z.pick U U) ?_
  refine S.qu (Z.mv U) ?_
  refine S.qu (Z.of) ?_
  refine S.qu (Z.of) ?_
  refine S.qu (Z.of) ?_
  refine S.qu (Z.of) ?_
  refine S.qu (Z.of) ?_
  refine S.qu (Z.pick U U) ?_
  refine S.qu (Z.mv U) ?_
  refine S.qu (Z.of) ?_
  refine S.qu (Z.of) ?_
  refine S.qu (Z.of) ?_
  refine S.qu (Z.of) ?_
  refine S.qu (Z.of) ?_
  refine S.qu (Z.pick U U) ?_
  refine S.qu (Z.mv U) ?_
  refine S.qu (Z.of) ?_
  refine S.qu (Z.of) ?_
  refine S.qu (Z.of) ?_
  refine S.qu (Z.of) ?_
  refine S.qu (Z.of) ?_
  refine S.qu (Z.pick U U) ?_
  refine S.qu (Z.as U) ?_
  refine US.nil (UQ.then (UW.ret ?_))
  refine S.bK (λ_=>ak U U) ?_
  rotate_left
  refine S.qu (Z.of) ?_
  refine S.qu (Z.of) ?_
  refine S.qu (Z.of) ?_
  refine S.qu (Z.of) ?_
  refine S.qu (Z.of) ?_
  refine S.qu (Z.pick U U) ?_
  refine S.qu (Z.mv U) ?_
  refine S.qu (Z.of) ?_
  refine S.qu (Z.of) ?_
  refine S.qu (Z.of) ?_
  refine S.qu (Z.of) ?_
  refine S.qu (Z.of) ?_
  refine S.qu (Z.pick U U) ?_
  refine S.qu (Z.mv U) ?_
  refine S.qu (Z.of) ?_
  refine S.qu (Z.of) ?_
  refine S.qu (Z.of) ?_
  refine S.qu (Z.of) ?_
  refine S.qu (Z.of) ?_
  refine S.qu (Z.pick U U) ?_
  refine S.qu (Z.mv U) ?_
  refine S.qu (Z.of) ?_
  refine S.qu (Z.of) ?_
  refine S.qu (Z.of) ?_
  refine S.qu (Z.of) ?_
  refine S.qu (Z.of) ?_
  refine S.qu (Z.pick U U) ?_
  refine S.qu (Z.mv U) ?_
  refine S.qu (Z.of) ?_
  refine S.qu (Z.of) ?_
  refine S.qu (Z.of) ?_
  refine S.qu (Z.of) ?_
  refine S.qu (Z.of) ?_
  refine S.qu (Z.pick U U) ?_
  refine S.qu (Z.mv U) ?_
  refine S.qu (Z.of) ?_
  refine S.qu (Z.of) ?_
  refine S.qu (Z.of) ?_
  refine S.qu (Z.of) ?_
  refine S.qu (Z.of) ?_
  refine S.qu (Z.pick U U) ?_
  refine S.qu (Z.as U) ?_
  refine US.nil (UQ.then (UW.ret ?_))
  refine S.bK (λ_=>ak U U) ?_
  rotate_left
  refine S.qu (Z.of) ?_
  refine S.qu (Z.of) ?_
  refine S.qu (Z.of) ?_
  refine S.qu (Z.of) ?_
  refine S.qu (Z.of) ?_
  refine S.qu (Z.pick U U) ?_
  refine S.qu (Z.mv U) ?_
  refine S.qu (Z.of) ?_
  refine S.qu (Z.of) ?_
  refine S.qu (Z.of) ?_
  refine S.qu (Z.of) ?_
  refine S.qu (Z.of) ?_
  refine S.qu (Z.pick U U) ?_
  refine S.qu (Z.mv U) ?_
  refine S.qu (Z.of) ?_
  refine S.qu (Z.of) ?_
  refine S.qu (Z.of) ?_
  refine S.qu (Z.of) ?_
  refine S.qu (Z.of) ?_
  refine S.qu (Z.pick U U) ?_
  refine S.qu (Z.mv U) ?_
  refine S.qu (Z.of) ?_
  refine S.qu (Z.of) ?_
  refine S.qu (Z.of) ?_
  refine S.qu (Z.of) ?_
  refine S.qu (Z.of) ?_
  refine S.qu (Z.pick U U) ?_
  refine S.qu (Z.mv U) ?_
  refine S.qu (Z.of) ?_
  refine S.qu (Z.of) ?_
  refine S.qu (Z.of) ?_
  refine S.qu (Z.of) ?_
  refine S.qu (Z.of) ?_
  refine S.qu (Z.pick U U) ?_
  refine S.qu (Z.mv U) ?_
  refine S.qu (Z.of) ?_
  refine S.qu (Z.of) ?_
  refine S.qu (Z.of) ?_
  refine S.qu (Z.of) ?_
  refine S.qu (Z.of) ?_
  refine S.qu (Z.pick U U) ?_
  refine S.qu (Z.mv U) ?_
  refine S.qu (Z.of) ?_
  refine S.qu (Z.of) ?_
  refine S.qu (Z.of) ?_
  refine S.qu (Z.of) ?_
  refine S.qu (Z.of) ?_
  refine S.qu (Z.pick U U) ?_
  refine S.qu (Z.as U) ?_
  refine US.nil (UQ.then (UW.ret ?_))
  refine S.bK (λ_=>ak U U) ?_
  rotate_left
  refine S.qu (Z.of) ?_
  refine S.qu (Z.of) ?_
  refine S.qu (Z.of) ?_
  refine S.qu (Z.of) ?_
  refine S.qu (Z.of) ?_
  refine S.qu (Z.pick U U) ?_
  refine S.qu (Z.mv U) ?_
  refine S.qu (Z.of) ?_
  refine S.qu (Z.of) ?_
  refine S.qu (Z.of) ?_
  refine S.qu (Z.of) ?_
  refine S.qu (Z.of) ?_
  refine S.qu (Z.pick U U) ?_
  refine S.qu (Z.mv U) ?_
  refine S.qu (Z.of) ?_
  refine S.qu (Z.of) ?_
  refine S.qu (Z.of) ?_
  refine S.qu (Z.of) ?_
  refine S.qu (Z.of) ?_
  refine S.qu (Z.pick U U) ?_
  refine S.qu (Z.mv U) ?_
  refine S.qu (Z.of) ?_
  refine S.qu (Z.of) ?_
  refine S.qu (Z.of) ?_
  refine S.qu (Z.of) ?_
  refine S.qu (Z.of) ?_
  refine S.qu (Z.pick U U) ?_
  refine S.qu (Z.mv U) ?_
  refine S.qu (Z.of) ?_
  refine S.qu (Z.of) ?_
  refine S.qu (Z.of) ?_
  refine S.qu (Z.of) ?_
  refine S.qu (Z.of) ?_
  refine S.qu (Z.pick U U) ?_
  refine S.qu (Z.mv U) ?_
  refine S.qu (Z.of) ?_
  refine S.qu (Z.of) ?_
  refine S.qu (Z.of) ?_
  refine S.qu (Z.of) ?_
  refine S.qu (Z.of) ?_
  refine S.qu (Z.pick U U) ?_
  refine S.qu (Z.mv U) ?_
  refine S.qu (Z.of) ?_
  refine S.qu (Z.of) ?_
  refine S.qu (Z.of) ?_
  refine S.qu (Z.of) ?_
  refine S.qu (Z.of) ?_
  refine S.qu (Z.pick U U) ?_
  refine S.qu (Z.mv U) ?_
  refine S.qu (Z.of) ?_
  refine S.qu (Z.of) ?_
  refine S.qu (Z.of) ?_
  refine S.qu (Z.of) ?_
  refine S.qu (Z.of) ?_
  refine S.qu (Z.pick U U) ?_
  refine S.qu (Z.as U) ?_
  refine US.nil (UQ.then (UW.ret ?_))
  refine S.bK (λ_=>ak U U) ?_
  rotate_left
  refine S.qu (Z.of) ?_
  refine S.qu (Z.of) ?_
  refine S.qu (Z.of) ?_
  refine S.qu (Z.of) ?_
  refine S.qu (Z.of) ?_
  refine S.qu (Z.pick U U) ?_
  refine S.qu (Z.mv U) ?_
  refine S.qu (Z.of) ?_
  refine S.qu (Z.of) ?_
  refine S.qu (Z.of) ?_
  refine S.qu (Z.of) ?_
  refine S.qu (Z.of) ?_
  refine S.qu (Z.pick U U) ?_
  refine S.qu (Z.mv U) ?_
  refine S.qu (Z.of) ?_
  refine S.qu (Z.of) ?_
  refine S.qu (Z.of) ?_
  refine S.qu (Z.of) ?_
  refine S.qu (Z.of) ?_
  refine S.qu (Z.pick U U) ?_
  refine S.qu (Z.mv U) ?_
  refine S.qu (Z.of) ?_
  refine S.qu (Z.of) ?_
  refine S.qu (Z.of) ?_
  refine S.qu (Z.of) ?_
  refine S.qu (Z.of) ?_
  refine S.qu (Z.pick U U) ?_
  refine S.qu (Z.mv U) ?_
  refine S.qu (Z.of) ?_
  refine S.qu (Z.of) ?_
  refine S.qu (Z.of) ?_
  refine S.qu (Z.of) ?_
  refine S.qu (Z.of) ?_
  refine S.qu (Z.pick U U) ?_
  refine S.qu (Z.mv U) ?_
  refine S.qu (Z.of) ?_
  refine S.qu (Z.of) ?_
  refine S.qu (Z.of) ?_
  refine S.qu (Z.of) ?_
  refine S.qu (Z.of) ?_
  refine S.qu (Z.pick U U) ?_
  refine S.qu (Z.mv U) ?_
  refine S.qu (Z.of) ?_
  refine S.qu (Z.of) ?_
  refine S.qu (Z.of) ?_
  refine S.qu (Z.of) ?_
  refine S.qu (Z.of) ?_
  refine S.qu (Z.pick U U) ?_
  refine S.qu (Z.mv U) ?_
  refine S.qu (Z.of) ?_
  refine S.qu (Z.of) ?_
  refine S.qu (Z.of) ?_
  refine S.qu (Z.of) ?_
  refine S.qu (Z.of) ?_
  refine S.qu (Z.pick U U) ?_
  refine S.qu (Z.mv U) ?_
  refine S.qu (Z.of) ?_
  refine S.qu (Z.of) ?_
  refine S.qu (Z.of) ?_
  refine S.qu (Z.of) ?_
  refine S.qu (Z.of) ?_
  refine S.qu (Z.pick U U) ?_
  refine S.qu (Z.as U) ?_
  refine US.nil (UQ.then (UW.ret ?_))
  refine S.bK (λ_=>ak U U) ?_
  rotate_left
  refine S.qu (Z.of) ?_
  refine S.qu (Z.of) ?_
  refine S.qu (Z.of) ?_
  refine S.qu (Z.of) ?_
  refine S.qu (Z.of) ?_
  refine S.qu (Z.pick U U) ?_
  refine S.qu (Z.mv U) ?_
  refine S.qu (Z.of) ?_
  refine S.qu (Z.of) ?_
  refine S.qu (Z.of) ?_
  refine S.qu (Z.of) ?_
  refine S.qu (Z.of) ?_
  refine S.qu (Z.pick U U) ?_
  refine S.qu (Z.mv U) ?_
  refine S.qu (Z.of) ?_
  refine S.qu (Z.of) ?_
  refine S.qu (Z.of) ?_
  refine S.qu (Z.of) ?_
  refine S.qu (Z.of) ?_
  refine S.qu (Z.pick U U) ?_
  refine S.qu (Z.mv U) ?_
  refine S.qu (Z.of) ?_
  refine S.qu (Z.of) ?_
  refine S.qu (Z.of) ?_
  refine S.qu (Z.of) ?_
  refine S.qu (Z.of) ?_
  refine S.qu (Z.pick U U) ?_
  refine S.qu (Z.mv U) ?_
  refine S.qu (Z.of) ?_
  refine S.qu (Z.of) ?_
  refine S.qu (Z.of) ?_
  refine S.qu (Z.of) ?_
  refine S.qu (Z.of) ?_
  refine S.qu (Z.pick U U) ?_
  refine S.qu (Z.mv U) ?_
  refine S.qu (Z.of) ?_
  refine S.qu (Z.of) ?_
  refine S.qu (Z.of) ?_
  refine S.qu (Z.of) ?_
  refine S.qu (Z.of) ?_
  refine S.qu (Z.pick U U) ?_
  refine S.qu (Z.mv U) ?_
  refine S.qu (Z.of) ?_
  refine S.qu (Z.of) ?_
  refine S.qu (Z.of) ?_
  refine S.qu (Z.of) ?_
  refine S.qu (Z.of) ?_
  refine S.qu (Z.pick U U) ?_
  refine S.qu (Z.mv U) ?_
  refine S.qu (Z.of) ?_
  refine S.qu (Z.of) ?_
  refine S.qu (Z.of) ?_
  refine S.qu (Z.of) ?_
  refine S.qu (Z.of) ?_
  refine S.qu (Z.pick U U) ?_
  refine S.qu (Z.mv U) ?_
  refine S.qu (Z.of) ?_
  refine S.qu (Z.of) ?_
  refine S.qu (Z.of) ?_
  refine S.qu (Z.of) ?_
  refine S.qu (Z.of) ?_
  refine S.qu (Z.pick U U) ?_
  refine S.qu (Z.mv U) ?_
  refine S.qu (Z.of) ?_
  refine S.qu (Z.of) ?_
  refine S.qu (Z.of) ?_
  refine S.qu (Z.of) ?_
  refine S.qu (Z.of) ?_
  refine S.qu (Z.pick U U) ?_
  refine S.qu (Z.as U) ?_
  refine US.nil (UQ.then (UW.ret ?_))
  refine S.bK (λ_=>ak U U) ?_
  rotate_left
 all_goals (refine congrArg (λb=>AV.v (Value.bool b)) ?_;clear h1 h2 h3 ha hb hc;simp_all)
end Go.Proofs.YtonpfomjoiaacaaGreatDoor
end
