/- A part of the proof. -/
import Derived.Test.YtonpfomjoiaacaaGreatDoorMw36
import Derived.Test.YtonpfomjoiaacaaGreatDoorMw26
set_option maxRecDepth 100000
set_option maxHeartbeats 4000000
set_option linter.unusedSectionVars false
set_option linter.unusedVariables false
set_option linter.unusedSimpArgs false
section
namespace Go.Proofs.YtonpfomjoiaacaaGreatDoor
open Go Go.iG Go.RowKit
theorem Rl(l:List ByteArray)(j:Nat)(hj:j<l.length):bu ((l.take j).map dz)++[aC (dz l[j])]=bu ((l.take (j+1)).map dz):=by
 rw[eX,eX,List.take_add_one,List.map_append,List.map_append,List.getElem?_eq_getElem hj];rfl
theorem DR(l:List ByteArray)(hl:l.length<=1000000)(H:Hp):au Tryz.prog 47 [strs l] H (bB H (.agg (aC (fH l)))):=by
 have yE:(l.map encS).length=l.length:=List.length_map ..
 refine aF (n:=23) (H0:=H) (I:=[]) Tryz.func47 (by kernel_rfl) U (by rw[Tryz.ntmps47];rfl) .nil<|?_
 refine Q.rg<|S.dd<|D.al z26 U U U λp2=>Q.nt<|Q.rg<|S.qu (Z.bdp [0] gU U U U U U)<|S.dd<|D.al z26 U U U λp3=>S.s<|D.st 0 av U U U U U U U U λ_=>Q.nt<|UW.rR 0 4 26 (sz:=5) (by decide) U U λid=>S.sq<|Q.rg<|Q.as U<|Q.nt<|UW.block<|S.loop (λs:Nat×Nat=>[(4,.v (.int .i64 (s.1:Int))),(3,.ptr p3 0),(2,.ptr p2 0),(0,strs l)]) (λs=>[(s.2,.row 26 5 (bu ((l.take s.1).map dz))),(p3,.box 26 [.v (.int .i64 4),.v (.int .i64 0),.v (.string ⟨#[]⟩),.v (.slice none 0 0),.own s.2 0 s.1 5]),(p2,.box 26 (aC zeroV))]) (λs=>s.1<=l.length) (λs=>l.length-s.1) (0,id) (Nat.zero_le _) ⟨rfl,rfl,rfl,rfl,trivial⟩ (.refl _)<|?_
 rintro⟨j,id⟩ hj
 simp only at hj
 simp only
 have hvl:(bu ((l.take j).map dz)).length=j:=by rw[aS,List.length_map,List.length_take];omega
 by_cases hjl:j<l.length
 ·have hg:=eY l j hjl
  have hsn:(bu ((l.take j).map dz)).take j++[aC (dz l[j])]=bu ((l.take (j+1)).map dz):=by rw[List.take_of_length_le (by omega)];exact Rl l j hjl
  generalize l[j]=s at*
  refine S.sq<|Q.rg<|Q.mv U<|Q.mv U<|S.qu (Z.fM aZ U)<|Q.bi U U U<|Q.nt<|S.cT U (decide_eq_true (by omega))<|UW.skip<|UQ.then<|S.sq<|UW.block<|?_
  refine' UW.bG (by kernel_rfl) [0,1,0,0,12,28,60,124,255,511,1023] [some 12,some 13,some 14,some 15,some 16,some 17,some 18,some 19,none,none,none] [some (12,_),some (13,_),some (14,_),some (15,_),some (16,_),some (17,_),some (18,_),some (19,_),none,none,none] [8,9,10] [1,5] U (by decide) (by decide) (M.free (by decide) U U ?iU (M.held (by decide) U U ?iV (M.free (by decide) U U ?iW (M.free (by decide) U U ?iX (M.free (by decide) U U ?iY (M.held (by decide) U U ?iZ (M.free (by decide) U U ?ja (M.free (by decide) U U ?kH (M.skip (M.skip (M.skip M.nil))))))))))) ?sI
  case iU=>(intro _;exact Z.fa bU rfl)
  case iV=>exact Z.dM 1 dR rfl rfl rfl
  case iW=>(intro _;exact Z.mv rfl)
  case iX=>(intro _;exact Z.mv rfl)
  case iY=>(intro _;exact Z.ia aZ rfl rfl (by omega) (by assumption) (by rfl))
  case iZ=>exact Z.fO dW rfl
  case ja=>(intro _;exact Z.call rfl rfl (λ_=>jq _ _))
  case kH=>(intro _;exact Z.bl jw rfl rfl (bz rfl))
  refine CH.cons U U (by decide)<|D.ap 0 jw U U (by omega) U (.sl (by intro cs h;cases List.mem_singleton.1 h;exact Y _)) (by first|omega|(simp;omega)) hsn λp20=>?_
  refine CH.cons U U (by decide)<|D.qu (Z.fa bU U)<|CH.bX U U<|D.st 1 dR U U U U U U U U λ_=>CH.nil<|?_
  simp only[app,bS]
  refine UQ.aB<|UQ.then<|S.rg<|Q.mv U<|S.qu (Z.add (r:=((j+1:Nat):Int)) U U (IntWalk.i64_in _ (by omega)))<|Q.as U<|US.nil<|?_
  refine S.back (_,_) ⟨rfl,rfl,rfl,rfl,trivial⟩ (.refl _) (by omega) (by omega)
 ·have he:((bu ((l.take j).map dz)).drop 0).take j=bu (l.map dz):=by rw[List.drop_zero,List.take_of_length_le (by omega),List.take_of_length_le (by omega)]
  refine S.sq<|Q.rg<|Q.mv U<|Q.mv U<|S.qu (Z.fM aZ U)<|Q.bi U U U<|Q.nt<|S.cF U (decide_eq_false (by omega))<|UW.exit<|UQ.pass<|UQ.pass<|UQ.here<|UQ.then<|Q.rg<|S.qu (Z.bW 1 av U U U)<|US.wK 22 4 0 U U U (by omega) he U<|S.s<|D.st 1 av U U U U U U U U λ_=>Q.nt<|UW.ret<|S.bH (λhd=>aX (k:=1) hd U U U gQ gT)<|?_
  rfl
theorem Ux{e:EV}(hs:Sm e)(i:Nat):Fits (dY ((dh e).take i))/\∀s∈(dY ((dh e).take i)).ks,s.size<=4000000:=by
 obtain⟨h1,h2,h3⟩:=hs.pairs
 have he:=Bv ((dh e).take i) (λp hp=>(h1 p (List.mem_of_mem_take hp)).2.2)
 exact⟨he.fits (by rw[List.length_take];omega),he.keys⟩
theorem Uy{e:EV}:(e.is=true->dY ((dh e).take 9)=iw e)/\(e.is=false->dY ((dh e).take 8)=iw e):=by
 constructor<;>intro h<;>unfold iw<;>rw[List.take_of_length_le (by unfold dh;rw[h];simp)]
theorem qX(e:EV)(hs:Sm e)(H:Hp):au Tryz.prog 14 [.agg (gZ e)] H (bB H (.agg (aC (aL e)))):=by
 have hpa:∀H,au Tryz.prog 47 [strs e.bL] H (bB H (.agg (aC (fH e.bL)))):=λH=>DR _ (by have:=hs.bL.1;omega) H
 have hpp:∀H,au Tryz.prog 47 [strs e.prev] H (bB H (.agg (aC (fH e.prev)))):=λH=>DR _ (by have:=hs.prev.1;omega) H
 have hF:=Ux hs
 have hw:∀i (p:ByteArray×V),(dh e)[i]? =some p->∀H,au Tryz.prog 18 [.agg (aC (dY ((dh e).take i))),.v (.string p.1),.agg (aC p.2)] H (bB H (.agg (aC (dY ((dh e).take (i+1)))))):=by
  intro i p hp H
  have:=jb _ (hF i).1 (hF i).2 p.1 p.2 H
  rw[List.take_add_one,hp,Option.toList_some,lQ]
  exact this
 have hsd:∀H,au Tryz.prog 17 [.agg (aC (iw e))] H (bB H (.agg (aC (aL e)))):=λH=>vE _ hs.rd.fits (by
  have:=hF 9
  rw[List.take_of_length_le hs.pairs.2.1] at this
  exact this.2) hs.rd.CS H
 obtain⟨h9,h8⟩:=Uy (e:=e)
 obtain⟨eid,ty,key,is,sender,room,prev,bL,depth,time,body⟩:=e
 simp only at hpa hpp h9 h8
 generalize aL _=mv at*
 have c0:∀H,au Tryz.prog 18 [.agg (aC lN),.v (.string fF),.agg (aC (fH bL))] H (bB H (.agg (aC (dY ((dh ⟨eid,ty,key,is,sender,room,prev,bL,depth,time,body⟩).take 1))))):=hw 0 (fF,fH bL) U
 unfold lN at c0
 have c1:=hw 1 (aO,body) U
 have c2:=hw 2 (dU,fu depth) U
 have c3:=hw 3 (iK,fu time) U
 have c4:=hw 4 (fK,fH prev) U
 have c5:=hw 5 (fQ,dz room) U
 have c6:=hw 6 (bQ,dz sender) U
 have c7:=hw 7 (dN,dz ty) U
 cases is with
 |true=>
  have c8:=hw 8 (dK,dz key) U
  rw[h9 U] at c8
  clear h8 h9 hw hF hs
  simp only[Nat.reduceAdd] at c0 c1 c2 c3 c4 c5 c6 c7 c8
  generalize dY ((dh _).take 1)=f1 at*
  generalize dY ((dh _).take 2)=f2 at*
  generalize dY ((dh _).take 3)=f3 at*
  generalize dY ((dh _).take 4)=f4 at*
  generalize dY ((dh _).take 5)=f5 at*
  generalize dY ((dh _).take 6)=f6 at*
  generalize dY ((dh _).take 7)=f7 at*
  generalize dY ((dh _).take 8)=f8 at*
  generalize iw _=fv at*
  obtain⟨b0,b1,b2,b3,b4⟩:=body
  obtain⟨m0,m1,m2,m3,m4⟩:=mv
  obtain⟨v0,v1,v2,v3,v4⟩:=fv
  obtain⟨k1,n1,t1,ks1,vs1⟩:=f1
  obtain⟨k2,n2,t2,ks2,vs2⟩:=f2
  obtain⟨k3,n3,t3,ks3,vs3⟩:=f3
  obtain⟨k4,n4,t4,ks4,vs4⟩:=f4
  obtain⟨k5,n5,t5,ks5,vs5⟩:=f5
  obtain⟨k6,n6,t6,ks6,vs6⟩:=f6
  obtain⟨k7,n7,t7,ks7,vs7⟩:=f7
  obtain⟨k8,n8,t8,ks8,vs8⟩:=f8
  refine aF (n:=53) (H0:=H) (I:=[]) Tryz.func14 (by kernel_rfl) U (by rw[Tryz.ntmps14];rfl) .nil<|?_
  refine Q.rg<|S.dd<|D.box U U U λp1=>S.dd<|D.al z26 U U U λp2=>Q.nt<|Q.rg<|S.qu (Z.bd [0] gU U U U U U U)<|S.dd<|D.al z26 U U U λp3=>S.s<|D.st 0 av U U U U U U U U λ_=>Q.nt<|S.sq<|?_
  refine' UW.bG (by kernel_rfl) [0,0,2,6,15,31] [some 5,some 6,some 7,some 8,some 9,none] [some (5,_),some (6,_),some (7,_),some (8,_),some (9,_),none] [5] [0,2] U (by decide) (by decide) (M.held (by decide) U U ?uM (M.free (by decide) U U ?uN (M.held (by decide) U U ?uO (M.free (by decide) U U ?uP (M.free (by decide) U U ?uQ (M.skip M.nil)))))) ?KN
  case uM=>exact Z.bW 0 av rfl rfl rfl
  case uN=>(intro _;exact Z.fa o5 rfl)
  case uO=>exact Z.dM 2 dB rfl rfl rfl
  case uP=>(intro _;exact Z.call rfl rfl (λH=>hpa H))
  case uQ=>(intro _;exact Z.call rfl rfl (λH=>c0 H))
  refine CH.bX U U<|D.st 0 av U U U U U U U U λ_=>CH.nil<|?_
  simp only[app,bS]
  refine UQ.then<|Q.rg<|S.qu (Z.bW 0 av U U U)<|Q.fa vG U<|S.qu (Z.SN 2 av U U U)<|S.qu (Z.call U U (λH=>c1 H))<|S.s<|D.st 0 av U U U U U U U U λ_=>Q.nt<|S.sq<|?_
  refine' UW.bG (by kernel_rfl) [0,0,2,6,15,31] [some 14,some 15,some 16,some 17,some 18,none] [some (14,_),some (15,_),some (16,_),some (17,_),some (18,_),none] [5] [0,2] U (by decide) (by decide) (M.held (by decide) U U ?q3x1_0 (M.free (by decide) U U ?q3x1_1 (M.held (by decide) U U ?q3x1_2 (M.free (by decide) U U ?q3x1_3 (M.free (by decide) U U ?q3x1_4 (M.skip M.nil)))))) ?q3x1_k
  case q3x1_0=>exact Z.bW 0 av rfl rfl rfl
  case q3x1_1=>(intro _;exact Z.fa mX rfl)
  case q3x1_2=>exact Z.dM 2 lg rfl rfl rfl
  case q3x1_3=>(intro _;exact Z.call rfl rfl (λ_=>gJ _ _))
  case q3x1_4=>(intro _;exact Z.call rfl rfl (λH=>c2 H))
  refine CH.bX U U<|D.st 0 av U U U U U U U U λ_=>CH.nil<|?_
  simp only[app,bS]
  refine UQ.then<|S.sq<|?_
  refine' UW.bG (by kernel_rfl) [0,0,2,6,15,31] [some 19,some 20,some 21,some 22,some 23,none] [some (19,_),some (20,_),some (21,_),some (22,_),some (23,_),none] [5] [0,2] U (by decide) (by decide) (M.held (by decide) U U ?q3x2_0 (M.free (by decide) U U ?q3x2_1 (M.held (by decide) U U ?q3x2_2 (M.free (by decide) U U ?q3x2_3 (M.free (by decide) U U ?q3x2_4 (M.skip M.nil)))))) ?q3x2_k
  case q3x2_0=>exact Z.bW 0 av rfl rfl rfl
  case q3x2_1=>(intro _;exact Z.fa mY rfl)
  case q3x2_2=>exact Z.dM 2 lg rfl rfl rfl
  case q3x2_3=>(intro _;exact Z.call rfl rfl (λ_=>gJ _ _))
  case q3x2_4=>(intro _;exact Z.call rfl rfl (λH=>c3 H))
  refine CH.bX U U<|D.st 0 av U U U U U U U U λ_=>CH.nil<|?_
  simp only[app,bS]
  refine UQ.then<|S.sq<|?_
  refine' UW.bG (by kernel_rfl) [0,0,2,6,15,31] [some 24,some 25,some 26,some 27,some 28,none] [some (24,_),some (25,_),some (26,_),some (27,_),some (28,_),none] [5] [0,2] U (by decide) (by decide) (M.held (by decide) U U ?q3x3_0 (M.free (by decide) U U ?q3x3_1 (M.held (by decide) U U ?q3x3_2 (M.free (by decide) U U ?q3x3_3 (M.free (by decide) U U ?q3x3_4 (M.skip M.nil)))))) ?q3x3_k
  case q3x3_0=>exact Z.bW 0 av rfl rfl rfl
  case q3x3_1=>(intro _;exact Z.fa oH rfl)
  case q3x3_2=>exact Z.dM 2 dB rfl rfl rfl
  case q3x3_3=>(intro _;exact Z.call rfl rfl (λH=>hpp H))
  case q3x3_4=>(intro _;exact Z.call rfl rfl (λH=>c4 H))
  refine CH.bX U U<|D.st 0 av U U U U U U U U λ_=>CH.nil<|?_
  simp only[app,bS]
  refine UQ.then<|S.sq<|?_
  refine' UW.bG (by kernel_rfl) [0,0,2,6,15,31] [some 29,some 30,some 31,some 32,some 33,none] [some (29,_),some (30,_),some (31,_),some (32,_),some (33,_),none] [5] [0,2] U (by decide) (by decide) (M.held (by decide) U U ?q3x4_0 (M.free (by decide) U U ?q3x4_1 (M.held (by decide) U U ?q3x4_2 (M.free (by decide) U U ?q3x4_3 (M.free (by decide) U U ?q3x4_4 (M.skip M.nil)))))) ?q3x4_k
  case q3x4_0=>exact Z.bW 0 av rfl rfl rfl
  case q3x4_1=>(intro _;exact Z.fa HV rfl)
  case q3x4_2=>exact Z.dM 2 dW rfl rfl rfl
  case q3x4_3=>(intro _;exact Z.call rfl rfl (λ_=>jq _ _))
  case q3x4_4=>(intro _;exact Z.call rfl rfl (λH=>c5 H))
  refine CH.bX U U<|D.st 0 av U U U U U U U U λ_=>CH.nil<|?_
  simp only[app,bS]
  refine UQ.then<|S.sq<|?_
  refine' UW.bG (by kernel_rfl) [0,0,2,6,15,31] [some 34,some 35,some 36,some 37,some 38,none] [some (34,_),some (35,_),some (36,_),some (37,_),some (38,_),none] [5] [0,2] U (by decide) (by decide) (M.held (by decide) U U ?q3x5_0 (M.free (by decide) U U ?q3x5_1 (M.held (by decide) U U ?q3x5_2 (M.free (by decide) U U ?q3x5_3 (M.free (by decide) U U ?q3x5_4 (M.skip M.nil)))))) ?q3x5_k
  case q3x5_0=>exact Z.bW 0 av rfl rfl rfl
  case q3x5_1=>(intro _;exact Z.fa Hz rfl)
  case q3x5_2=>exact Z.dM 2 dW rfl rfl rfl
  case q3x5_3=>(intro _;exact Z.call rfl rfl (λ_=>jq _ _))
  case q3x5_4=>(intro _;exact Z.call rfl rfl (λH=>c6 H))
  refine CH.bX U U<|D.st 0 av U U U U U U U U λ_=>CH.nil<|?_
  simp only[app,bS]
  refine UQ.then<|S.sq<|?_
  refine' UW.bG (by kernel_rfl) [0,0,2,6,15,31] [some 39,some 40,some 41,some 42,some 43,none] [some (39,_),some (40,_),some (41,_),some (42,_),some (43,_),none] [5] [0,2] U (by decide) (by decide) (M.held (by decide) U U ?q3x6_0 (M.free (by decide) U U ?q3x6_1 (M.held (by decide) U U ?q3x6_2 (M.free (by decide) U U ?q3x6_3 (M.free (by decide) U U ?q3x6_4 (M.skip M.nil)))))) ?q3x6_k
  case q3x6_0=>exact Z.bW 0 av rfl rfl rfl
  case q3x6_1=>(intro _;exact Z.fa qW rfl)
  case q3x6_2=>exact Z.dM 2 dW rfl rfl rfl
  case q3x6_3=>(intro _;exact Z.call rfl rfl (λ_=>jq _ _))
  case q3x6_4=>(intro _;exact Z.call rfl rfl (λH=>c7 H))
  refine CH.bX U U<|D.st 0 av U U U U U U U U λ_=>CH.nil<|?_
  simp only[app,bS]
  refine UQ.then<|S.sq<|Q.rg<|Q.fa jW U<|Q.lc 2 oo U U U<|Q.nt<|S.cT U U<|?_
  refine' UW.bG (by kernel_rfl) [0,0,2,6,15,31] [some 46,some 47,some 48,some 49,some 50,none] [some (46,_),some (47,_),some (48,_),some (49,_),some (50,_),none] [5] [0,2] U (by decide) (by decide) (M.held (by decide) U U ?q3x7_0 (M.free (by decide) U U ?q3x7_1 (M.held (by decide) U U ?q3x7_2 (M.free (by decide) U U ?q3x7_3 (M.free (by decide) U U ?q3x7_4 (M.skip M.nil)))))) ?q3x7_k
  case q3x7_0=>exact Z.bW 0 av rfl rfl rfl
  case q3x7_1=>(intro _;exact Z.fa sD rfl)
  case q3x7_2=>exact Z.dM 2 dW rfl rfl rfl
  case q3x7_3=>(intro _;exact Z.call rfl rfl (λ_=>jq _ _))
  case q3x7_4=>(intro _;exact Z.call rfl rfl (λH=>c8 H))
  refine CH.bX U U<|D.st 0 av U U U U U U U U λ_=>CH.nil<|?_
  simp only[app,bS]
  refine UQ.then<|Q.rg<|S.qu (Z.bW 0 av U U U)<|S.qu (Z.call U U (λH=>hsd H))<|S.s<|D.st 1 av U U U U U U U U λ_=>Q.nt<|UW.ret<|S.bH (λhd=>aX (k:=1) hd U U U gQ gT)<|?_
  rfl
 |false=>
  rw[h8 U] at c7
  clear h8 h9 hw hF hs
  simp only[Nat.reduceAdd] at c0 c1 c2 c3 c4 c5 c6 c7
  generalize dY ((dh _).take 1)=f1 at*
  generalize dY ((dh _).take 2)=f2 at*
  generalize dY ((dh _).take 3)=f3 at*
  generalize dY ((dh _).take 4)=f4 at*
  generalize dY ((dh _).take 5)=f5 at*
  generalize dY ((dh _).take 6)=f6 at*
  generalize dY ((dh _).take 7)=f7 at*
  generalize iw _=fv at*
  obtain⟨b0,b1,b2,b3,b4⟩:=body
  obtain⟨m0,m1,m2,m3,m4⟩:=mv
  obtain⟨v0,v1,v2,v3,v4⟩:=fv
  obtain⟨k1,n1,t1,ks1,vs1⟩:=f1
  obtain⟨k2,n2,t2,ks2,vs2⟩:=f2
  obtain⟨k3,n3,t3,ks3,vs3⟩:=f3
  obtain⟨k4,n4,t4,ks4,vs4⟩:=f4
  obtain⟨k5,n5,t5,ks5,vs5⟩:=f5
  obtain⟨k6,n6,t6,ks6,vs6⟩:=f6
  obtain⟨k7,n7,t7,ks7,vs7⟩:=f7
  refine aF (n:=53) (H0:=H) (I:=[]) Tryz.func14 (by kernel_rfl) U (by rw[Tryz.ntmps14];rfl) .nil<|?_
  refine Q.rg<|S.dd<|D.box U U U λp1=>S.dd<|D.al z26 U U U λp2=>Q.nt<|Q.rg<|S.qu (Z.bd [0] gU U U U U U U)<|S.dd<|D.al z26 U U U λp3=>S.s<|D.st 0 av U U U U U U U U λ_=>Q.nt<|S.sq<|?_
  refine' UW.bG (by kernel_rfl) [0,0,2,6,15,31] [some 5,some 6,some 7,some 8,some 9,none] [some (5,_),some (6,_),some (7,_),some (8,_),some (9,_),none] [5] [0,2] U (by decide) (by decide) (M.held (by decide) U U ?nA (M.free (by decide) U U ?nC (M.held (by decide) U U ?nD (M.free (by decide) U U ?nE (M.free (by decide) U U ?qC (M.skip M.nil)))))) ?Cf
  case nA=>exact Z.bW 0 av rfl rfl rfl
  case nC=>(intro _;exact Z.fa o5 rfl)
  case nD=>exact Z.dM 2 dB rfl rfl rfl
  case nE=>(intro _;exact Z.call rfl rfl (λH=>hpa H))
  case qC=>(intro _;exact Z.call rfl rfl (λH=>c0 H))
  refine CH.bX U U<|D.st 0 av U U U U U U U U λ_=>CH.nil<|?_
  simp only[app,bS]
  refine UQ.then<|Q.rg<|S.qu (Z.bW 0 av U U U)<|Q.fa vG U<|S.qu (Z.SN 2 av U U U)<|S.qu (Z.call U U (λH=>c1 H))<|S.s<|D.st 0 av U U U U U U U U λ_=>Q.nt<|S.sq<|?_
  refine' UW.bG (by kernel_rfl) [0,0,2,6,15,31] [some 14,some 15,some 16,some 17,some 18,none] [some (14,_),some (15,_),some (16,_),some (17,_),some (18,_),none] [5] [0,2] U (by decide) (by decide) (M.held (by decide) U U ?QU (M.free (by decide) U U ?QV (M.held (by decide) U U ?QW (M.free (by decide) U U ?QX (M.free (by decide) U U ?QY (M.skip M.nil)))))) ?q4x1_k
  case QU=>exact Z.bW 0 av rfl rfl rfl
  case QV=>(intro _;exact Z.fa mX rfl)
  case QW=>exact Z.dM 2 lg rfl rfl rfl
  case QX=>(intro _;exact Z.call rfl rfl (λ_=>gJ _ _))
  case QY=>(intro _;exact Z.call rfl rfl (λH=>c2 H))
  refine CH.bX U U<|D.st 0 av U U U U U U U U λ_=>CH.nil<|?_
  simp only[app,bS]
  refine UQ.then<|S.sq<|?_
  refine' UW.bG (by kernel_rfl) [0,0,2,6,15,31] [some 19,some 20,some 21,some 22,some 23,none] [some (19,_),some (20,_),some (21,_),some (22,_),some (23,_),none] [5] [0,2] U (by decide) (by decide) (M.held (by decide) U U ?q4x2_0 (M.free (by decide) U U ?q4x2_1 (M.held (by decide) U U ?q4x2_2 (M.free (by decide) U U ?q4x2_3 (M.free (by decide) U U ?q4x2_4 (M.skip M.nil)))))) ?q4x2_k
  case q4x2_0=>exact Z.bW 0 av rfl rfl rfl
  case q4x2_1=>(intro _;exact Z.fa mY rfl)
  case q4x2_2=>exact Z.dM 2 lg rfl rfl rfl
  case q4x2_3=>(intro _;exact Z.call rfl rfl (λ_=>gJ _ _))
  case q4x2_4=>(intro _;exact Z.call rfl rfl (λH=>c3 H))
  refine CH.bX U U<|D.st 0 av U U U U U U U U λ_=>CH.nil<|?_
  simp only[app,bS]
  refine UQ.then<|S.sq<|?_
  refine' UW.bG (by kernel_rfl) [0,0,2,6,15,31] [some 24,some 25,some 26,some 27,some 28,none] [some (24,_),some (25,_),some (26,_),some (27,_),some (28,_),none] [5] [0,2] U (by decide) (by decide) (M.held (by decide) U U ?q4x3_0 (M.free (by decide) U U ?q4x3_1 (M.held (by decide) U U ?q4x3_2 (M.free (by decide) U U ?q4x3_3 (M.free (by decide) U U ?q4x3_4 (M.skip M.nil)))))) ?q4x3_k
  case q4x3_0=>exact Z.bW 0 av rfl rfl rfl
  case q4x3_1=>(intro _;exact Z.fa oH rfl)
  case q4x3_2=>exact Z.dM 2 dB rfl rfl rfl
  case q4x3_3=>(intro _;exact Z.call rfl rfl (λH=>hpp H))
  case q4x3_4=>(intro _;exact Z.call rfl rfl (λH=>c4 H))
  refine CH.bX U U<|D.st 0 av U U U U U U U U λ_=>CH.nil<|?_
  simp only[app,bS]
  refine UQ.then<|S.sq<|?_
  refine' UW.bG (by kernel_rfl) [0,0,2,6,15,31] [some 29,some 30,some 31,some 32,some 33,none] [some (29,_),some (30,_),some (31,_),some (32,_),some (33,_),none] [5] [0,2] U (by decide) (by decide) (M.held (by decide) U U ?q4x4_0 (M.free (by decide) U U ?q4x4_1 (M.held (by decide) U U ?q4x4_2 (M.free (by decide) U U ?q4x4_3 (M.free (by decide) U U ?q4x4_4 (M.skip M.nil)))))) ?q4x4_k
  case q4x4_0=>exact Z.bW 0 av rfl rfl rfl
  case q4x4_1=>(intro _;exact Z.fa HV rfl)
  case q4x4_2=>exact Z.dM 2 dW rfl rfl rfl
  case q4x4_3=>(intro _;exact Z.call rfl rfl (λ_=>jq _ _))
  case q4x4_4=>(intro _;exact Z.call rfl rfl (λH=>c5 H))
  refine CH.bX U U<|D.st 0 av U U U U U U U U λ_=>CH.nil<|?_
  simp only[app,bS]
  refine UQ.then<|S.sq<|?_
  refine' UW.bG (by kernel_rfl) [0,0,2,6,15,31] [some 34,some 35,some 36,some 37,some 38,none] [some (34,_),some (35,_),some (36,_),some (37,_),some (38,_),none] [5] [0,2] U (by decide) (by decide) (M.held (by decide) U U ?q4x5_0 (M.free (by decide) U U ?q4x5_1 (M.held (by decide) U U ?q4x5_2 (M.free (by decide) U U ?q4x5_3 (M.free (by decide) U U ?q4x5_4 (M.skip M.nil)))))) ?q4x5_k
  case q4x5_0=>exact Z.bW 0 av rfl rfl rfl
  case q4x5_1=>(intro _;exact Z.fa Hz rfl)
  case q4x5_2=>exact Z.dM 2 dW rfl rfl rfl
  case q4x5_3=>(intro _;exact Z.call rfl rfl (λ_=>jq _ _))
  case q4x5_4=>(intro _;exact Z.call rfl rfl (λH=>c6 H))
  refine CH.bX U U<|D.st 0 av U U U U U U U U λ_=>CH.nil<|?_
  simp only[app,bS]
  refine UQ.then<|S.sq<|?_
  refine' UW.bG (by kernel_rfl) [0,0,2,6,15,31] [some 39,some 40,some 41,some 42,some 43,none] [some (39,_),some (40,_),some (41,_),some (42,_),some (43,_),none] [5] [0,2] U (by decide) (by decide) (M.held (by decide) U U ?q4x6_0 (M.free (by decide) U U ?q4x6_1 (M.held (by decide) U U ?q4x6_2 (M.free (by decide) U U ?q4x6_3 (M.free (by decide) U U ?q4x6_4 (M.skip M.nil)))))) ?q4x6_k
  case q4x6_0=>exact Z.bW 0 av rfl rfl rfl
  case q4x6_1=>(intro _;exact Z.fa qW rfl)
  case q4x6_2=>exact Z.dM 2 dW rfl rfl rfl
  case q4x6_3=>(intro _;exact Z.call rfl rfl (λ_=>jq _ _))
  case q4x6_4=>(intro _;exact Z.call rfl rfl (λH=>c7 H))
  refine CH.bX U U<|D.st 0 av U U U U U U U U λ_=>CH.nil<|?_
  simp only[app,bS]
  refine UQ.then<|S.sq<|Q.rg<|Q.fa jW U<|Q.lc 2 oo U U U<|Q.nt<|S.cF U U<|UW.skip<|UQ.then<|Q.rg<|S.qu (Z.bW 0 av U U U)<|S.qu (Z.call U U (λH=>hsd H))<|S.s<|D.st 1 av U U U U U U U U λ_=>Q.nt<|UW.ret<|S.bH (λhd=>aX (k:=1) hd U U U gQ gT)<|?_
  rfl
theorem BI(e:EV)(hs:Sm e)(H:Hp):au Tryz.prog 31 [.agg (gZ e)] H (bB H (.agg (gZ {e with id:=oI (aL e)}))):=by
 have hm:∀H,au Tryz.prog 14 [.agg (gZ e)] H (bB H (.agg (aC (aL e)))):=λH=>qX e hs H
 have hi:∀H,au Tryz.prog 79 [.agg (aC (aL e))] H (bB H (.v (.string (oI (aL e))))):=λH=>WJ _ hs.make.fits hs.make.prR (aat λ_=>⟨lS e,λ_=>by have h:=(fD e).body;rw[h];exact hs.o⟩) H
 generalize oI (aL e)=i at*
 generalize aL e=m at*
 obtain⟨eid,ty,key,is,sender,room,prev,bL,depth,time,body⟩:=e
 clear hs
 obtain⟨m0,m1,m2,m3,m4⟩:=m
 obtain⟨b0,b1,b2,b3,b4⟩:=body
 refine aF (n:=8) (H0:=H) (I:=[]) Tryz.func31 (by kernel_rfl) U (by rw[Tryz.ntmps31];rfl) .nil<|?_
 refine Q.rg<|S.dd<|D.box U U U λp1=>S.dd<|D.al z28 U U U λp2=>Q.nt<|Q.rg<|S.qu (Z.bW 1 di U U U)<|S.qu (Z.call U U (λH=>hm H))<|S.qu (Z.call U U (λH=>hi H))<|Q.fa su U<|S.s<|D.st 1 dW U U U U U U U U λ_=>Q.nt<|Q.rg<|S.qu (Z.bW 1 di U U U)<|S.s<|D.st 0 di U U U U U U U U λ_=>Q.nt<|UW.ret<|S.bH (λhd=>aX (k:=0) hd U U U Iw Iy)<|?_
 rfl
theorem Mh(e:EV)(hs:Sm e)(H:Hp):au Tryz.prog 30 [.agg (gZ e)] H (bB H (.v (.string (aR (aL e))))):=by
 have hm:∀H,au Tryz.prog 14 [.agg (gZ e)] H (bB H (.agg (aC (aL e)))):=λH=>qX e hs H
 have hi:∀H,au Tryz.prog 37 [.agg (aC (aL e))] H (bB H (.v (.string (aR (aL e))))):=λH=>xy _ hs.make.fits hs.make.pr H
 generalize aR (aL e)=i at*
 generalize aL e=m at*
 obtain⟨eid,ty,key,is,sender,room,prev,bL,depth,time,body⟩:=e
 clear hs
 obtain⟨m0,m1,m2,m3,m4⟩:=m
 obtain⟨b0,b1,b2,b3,b4⟩:=body
 refine aF (n:=6) (H0:=H) (I:=[]) Tryz.func30 (by kernel_rfl) U (by rw[Tryz.ntmps30];rfl) .nil<|?_
 refine Q.rg<|S.dd<|D.box U U U λp1=>Q.as U<|Q.nt<|Q.rg<|S.qu (Z.bW 0 di U U U)<|S.qu (Z.call U U (λH=>hm H))<|S.qu (Z.call U U (λH=>hi H))<|Q.as U<|Q.nt<|UW.ret<|S.bH (λ_=>ak U U)<|?_
 rfl
theorem xI(a b:EV)(ha:a.prev.length<=1000)(hb:a.bL.length<=1000)(hc:Fits a.body)(H:Hp):au Tryz.prog 21 [.agg (gZ a),.agg (gZ b)] H (bB H (.v (.bool (Hy a b)))):=by
 have h1:∀H,au Tryz.prog 71 [strs a.prev,strs b.prev] H (bB H (.v (.bool (mh uF a.prev b.prev)))):=λH=>sJ _ _ (by omega) H
 have h2:∀H,au Tryz.prog 71 [strs a.bL,strs b.bL] H (bB H (.v (.bool (mh uF a.bL b.bL)))):=λH=>sJ _ _ (by omega) H
 have h3:∀H,au Tryz.prog 28 [.agg (aC a.body),.agg (aC b.body)] H (bB H (.v (.bool (gV a.body b.body)))):=λH=>Fz _ hc _ H
 unfold Hy
 obtain⟨i1,t1,k1,s1,u1,r1,p1,a1,d1,m1,b1⟩:=a
 obtain⟨i2,t2,k2,s2,u2,r2,p2,a2,d2,m2,b2⟩:=b
 simp only at*
 generalize mh uF p1 p2=e1 at*
 generalize mh uF a1 a2=e2 at*
 generalize gV b1 b2=e3 at*
 obtain⟨x1,x2,x3,x4,x5⟩:=b1
 obtain⟨y1,y2,y3,y4,y5⟩:=b2
 refine aF (n:=80) (H0:=H) (I:=[]) Tryz.func21 (by kernel_rfl) U (by rw[Tryz.ntmps21];rfl) .nil<|?_
 focus
  refine Q.rg<|S.dd<|D.box U U U λp2=>S.dd<|D.box U U U λp3=>Q.as U<|Q.nt<|Q.rg<|Q.fa su U<|Q.lc 1 dW U U U<|Q.fa su U<|Q.lc 0 dW U U U<|S.qu (Z.bs U U U)<|Q.mv U<|?_
  refine S.tE 10 (λzq=>?_) (λzq=>?_)
  refine Q.on (Z.fa qW U)<|Q.on (Z.dM 1 dW U U U)<|Q.on (Z.fa qW U)<|Q.on (Z.dM 0 dW U U U)<|Q.on (Z.bs U U U)<|Q.pk U U<|Q.mv U<|?_
  refine S.tE 17 (λhc17=>?_) (λhc17=>?_)
  refine Q.on (Z.fa sD U)<|Q.on (Z.dM 1 dW U U U)<|Q.on (Z.fa sD U)<|Q.on (Z.dM 0 dW U U U)<|Q.on (Z.bs U U U)<|Q.pk U U<|Q.mv U<|?_
  refine S.tE 24 (λhc24=>?_) (λhc24=>?_)
  refine Q.on (Z.fa jW U)<|Q.on (Z.dM 1 oo U U U)<|Q.on (Z.fa jW U)<|Q.on (Z.dM 0 oo U U U)<|Q.on (Z.beq Tryz.underlying4 U U)<|Q.pk U U<|Q.mv U<|?_
  refine S.tE 31 (λhc31=>?_) (λhc31=>?_)
  refine Q.on (Z.fa Hz U)<|Q.on (Z.dM 1 dW U U U)<|Q.on (Z.fa Hz U)<|Q.on (Z.dM 0 dW U U U)<|Q.on (Z.bs U U U)<|Q.pk U U<|Q.mv U<|?_
  refine S.tE 38 (λhc38=>?_) (λhc38=>?_)
  refine Q.on (Z.fa HV U)<|Q.on (Z.dM 1 dW U U U)<|Q.on (Z.fa HV U)<|Q.on (Z.dM 0 dW U U U)<|Q.on (Z.bs U U U)<|Q.pk U U<|Q.mv U<|?_
  refine S.tE 45 (λWl=>?_) (λWl=>?_)
  refine Q.on (Z.fa mX U)<|Q.on (Z.dM 1 lg U U U)<|Q.on (Z.fa mX U)<|Q.on (Z.dM 0 lg U U U)<|Q.on (Z.bi U U U)<|Q.pk U U<|Q.mv U<|?_
  refine S.tE 52 (λhc52=>?_) (λhc52=>?_)
  refine Q.on (Z.fa mY U)<|Q.on (Z.dM 1 lg U U U)<|Q.on (Z.fa mY U)<|Q.on (Z.dM 0 lg U U U)<|Q.on (Z.bi U U U)<|Q.pk U U<|Q.mv U<|?_
  refine S.tE 59 (λhc59=>?_) (λhc59=>?_)
  refine Q.on (Z.fa oH U)<|Q.on (Z.dM 1 dB U U U)<|Q.on (Z.fa oH U)<|Q.on (Z.dM 0 dB U U U)<|Q.on (Z.call U U (λH=>h1 H))<|Q.pk U U<|Q.mv U<|?_
  refine S.tB 66 (λhc66=>?_) (λhc66=>?_)
  refine Q.on (Z.fa o5 U)<|Q.on (Z.dM 1 dB U U U)<|Q.on (Z.fa o5 U)<|Q.on (Z.dM 0 dB U U U)<|Q.on (Z.call U U (λH=>h2 H))<|Q.pk U U<|Q.mv U<|?_
  refine S.tB 73 (λRm=>?_) (λRm=>?_)
  refine Q.on (Z.fa vG U)<|Q.on (Z.SN 1 av U U U)<|Q.on (Z.fa vG U)<|Q.on (Z.SN 0 av U U U)<|Q.on (Z.call U U (λH=>h3 H))<|Q.pk U U<|Q.as U<|Q.nt<|UW.ret<|S.bH (λ_=>ak U U)<|?_
  rotate_left
  refine Q.of<|Q.of<|Q.of<|Q.of<|Q.of<|Q.pk U U<|Q.as U<|Q.nt<|UW.ret<|S.bH (λ_=>ak U U)<|?_
  rotate_left
  refine Q.of<|Q.of<|Q.of<|Q.of<|Q.of<|Q.pk U U<|Q.mv U<|Q.of<|Q.of<|Q.of<|Q.of<|Q.of<|Q.pk U U<|Q.as U<|Q.nt<|UW.ret<|S.bH (λ_=>ak U U)<|?_
  rotate_left
  refine Q.of<|Q.of<|Q.of<|Q.of<|Q.of<|Q.pk U U<|Q.mv U<|Q.of<|Q.of<|Q.of<|Q.of<|Q.of<|Q.pk U U<|Q.mv U<|Q.of<|Q.of<|Q.of<|Q.of<|Q.of<|Q.pk U U<|Q.as U<|Q.nt<|UW.ret<|S.bH (λ_=>ak U U)<|?_
  rotate_left
  refine Q.of<|Q.of<|Q.of<|Q.of<|Q.of<|Q.pk U U<|Q.mv U<|Q.of<|Q.of<|Q.of<|Q.of<|Q.of<|Q.pk U U<|Q.mv U<|Q.of<|Q.of<|Q.of<|Q.of<|Q.of<|Q.pk U U<|Q.mv U<|Q.of<|Q.of<|Q.of<|Q.of<|Q.of<|Q.pk U U<|Q.as U<|Q.nt<|UW.ret<|S.bH (λ_=>ak U U)<|?_
  rotate_left
  refine Q.of<|Q.of<|Q.of<|Q.of<|Q.of<|Q.pk U U<|Q.mv U<|Q.of<|Q.of<|Q.of<|Q.of<|Q.of<|Q.pk U U<|Q.mv U<|Q.of<|Q.of<|Q.of<|Q.of<|Q.of<|Q.pk U U<|Q.mv U<|Q.of<|Q.of<|Q.of<|Q.of<|Q.of<|Q.pk U U<|Q.mv U<|Q.of<|Q.of<|Q.of<|Q.of<|Q.of<|Q.pk U U<|Q.as U<|Q.nt<|UW.ret<|S.bH (λ_=>ak U U)<|?_
  rotate_left
  refine Q.of<|Q.of<|Q.of<|Q.of<|Q.of<|Q.pk U U<|Q.mv U<|Q.of<|Q.of<|Q.of<|Q.of<|Q.of<|Q.pk U U<|Q.mv U<|Q.of<|Q.of<|Q.of<|Q.of<|Q.of<|Q.pk U U<|Q.mv U<|Q.of<|Q.of<|Q.of<|Q.of<|Q.of<|Q.pk U U<|Q.mv U<|Q.of<|Q.of<|Q.of<|Q.of<|Q.of<|Q.pk U U<|Q.mv U<|Q.of<|Q.of<|Q.of<|Q.of<|Q.of<|?_
  refine Q.pk U U<|Q.as U<|Q.nt<|UW.ret<|S.bH (λ_=>ak U U)<|?_
  rotate_left
  refine Q.of<|Q.of<|Q.of<|Q.of<|Q.of<|Q.pk U U<|Q.mv U<|Q.of<|Q.of<|Q.of<|Q.of<|Q.of<|Q.pk U U<|Q.mv U<|Q.of<|Q.of<|Q.of<|Q.of<|Q.of<|Q.pk U U<|Q.mv U<|Q.of<|Q.of<|Q.of<|Q.of<|Q.of<|Q.pk U U<|Q.mv U<|Q.of<|Q.of<|Q.of<|Q.of<|Q.of<|Q.pk U U<|Q.mv U<|Q.of<|Q.of<|Q.of<|Q.of<|Q.of<|?_
  refine Q.pk U U<|Q.mv U<|Q.of<|Q.of<|Q.of<|Q.of<|Q.of<|Q.pk U U<|Q.as U<|Q.nt<|UW.ret<|S.bH (λ_=>ak U U)<|?_
  rotate_left
  refine Q.of<|Q.of<|Q.of<|Q.of<|Q.of<|Q.pk U U<|Q.mv U<|Q.of<|Q.of<|Q.of<|Q.of<|Q.of<|Q.pk U U<|Q.mv U<|Q.of<|Q.of<|Q.of<|Q.of<|Q.of<|Q.pk U U<|Q.mv U<|Q.of<|Q.of<|Q.of<|Q.of<|Q.of<|Q.pk U U<|Q.mv U<|Q.of<|Q.of<|Q.of<|Q.of<|Q.of<|Q.pk U U<|Q.mv U<|Q.of<|Q.of<|Q.of<|Q.of<|Q.of<|?_
  refine Q.pk U U<|Q.mv U<|Q.of<|Q.of<|Q.of<|Q.of<|Q.of<|Q.pk U U<|Q.mv U<|Q.of<|Q.of<|Q.of<|Q.of<|Q.of<|Q.pk U U<|Q.as U<|Q.nt<|UW.ret<|S.bH (λ_=>ak U U)<|?_
  rotate_left
  refine Q.of<|Q.of<|Q.of<|Q.of<|Q.of<|Q.pk U U<|Q.mv U<|Q.of<|Q.of<|Q.of<|Q.of<|Q.of<|Q.pk U U<|Q.mv U<|Q.of<|Q.of<|Q.of<|Q.of<|Q.of<|Q.pk U U<|Q.mv U<|Q.of<|Q.of<|Q.of<|Q.of<|Q.of<|Q.pk U U<|Q.mv U<|Q.of<|Q.of<|Q.of<|Q.of<|Q.of<|Q.pk U U<|Q.mv U<|Q.of<|Q.of<|Q.of<|Q.of<|Q.of<|?_
  refine Q.pk U U<|Q.mv U<|Q.of<|Q.of<|Q.of<|Q.of<|Q.of<|Q.pk U U<|Q.mv U<|Q.of<|Q.of<|Q.of<|Q.of<|Q.of<|Q.pk U U<|Q.mv U<|Q.of<|Q.of<|Q.of<|Q.of<|Q.of<|Q.pk U U<|Q.as U<|Q.nt<|UW.ret<|S.bH (λ_=>ak U U)<|?_
  rotate_left
  refine Q.of<|Q.of<|Q.of<|Q.of<|Q.of<|Q.pk U U<|Q.mv U<|Q.of<|Q.of<|Q.of<|Q.of<|Q.of<|Q.pk U U<|Q.mv U<|Q.of<|Q.of<|Q.of<|Q.of<|Q.of<|Q.pk U U<|Q.mv U<|Q.of<|Q.of<|Q.of<|Q.of<|Q.of<|Q.pk U U<|Q.mv U<|Q.of<|Q.of<|Q.of<|Q.of<|Q.of<|Q.pk U U<|Q.mv U<|Q.of<|Q.of<|Q.of<|Q.of<|Q.of<|?_
  refine Q.pk U U<|Q.mv U<|Q.of<|Q.of<|Q.of<|Q.of<|Q.of<|Q.pk U U<|Q.mv U<|Q.of<|Q.of<|Q.of<|Q.of<|Q.of<|Q.pk U U<|Q.mv U<|Q.of<|Q.of<|Q.of<|Q.of<|Q.of<|Q.pk U U<|Q.mv U<|Q.of<|Q.of<|Q.of<|Q.of<|Q.of<|Q.pk U U<|Q.as U<|Q.nt<|UW.ret<|S.bH (λ_=>ak U U)<|?_
  rotate_left
 all_goals (refine congrArg (λb=>AV.v (Value.bool b)) ?_;clear h1 h2 h3 ha hb hc;simp_all)
def eU:Nat->ByteArray
 |0=>⟨#[]⟩
 |n+1=>eU n++⟨#[116]⟩
theorem kN:∀n,(eU n).size=n
 |0=>rfl
 |n+1=>by
  show(eU n++⟨#[116]⟩).size=_
  rw[bf,kN n]
  rfl
theorem JE(n:Nat)(hn:n<=100000)(H:Hp):au Tryz.prog 26 [.v (.int .i64 (n:Int))] H (bB H (.v (.string (eU n)))):=by
 refine aF (n:=13) (H0:=H) (I:=[]) Tryz.func26 (by kernel_rfl) U (by rw[Tryz.ntmps26];rfl) .nil<|?_
 refine Q.rg<|Q.as U<|Q.nt<|Q.rg<|Q.as U<|Q.nt<|S.sq<|Q.rg<|Q.as U<|Q.nt<|UW.block<|S.loop (λj:Nat=>[(4,.v (.int .i64 (j:Int))),(3,.v (.string (eU j))),(0,.v (.int .i64 (n:Int)))]) (λ_=>[]) (λj=>j<=n) (λj=>n-j) 0 (Nat.zero_le _) ⟨rfl,rfl,rfl,trivial⟩ (.refl _)<|?_
 intro j hj
 by_cases hlt:j<n
 ·have hz:=kN j
  have h1:(⟨#[116]⟩:ByteArray).size=1:=rfl
  refine S.sq<|Q.rg<|Q.mv U<|Q.mv U<|Q.bi U U U<|Q.nt<|S.cT U (decide_eq_true (by omega))<|UW.skip<|UQ.then<|S.sq<|UW.block<|S.rg<|Q.mv U<|S.qu (Z.cat U U (by omega))<|Q.as U<|US.nil<|UQ.aB<|UQ.then<|S.rg<|Q.mv U<|S.qu (Z.add (r:=((j+1:Nat):Int)) U U (IntWalk.i64_in _ (by omega)))<|Q.as U<|US.nil<|?_
  refine S.back (j+1) ⟨rfl,rfl,rfl,trivial⟩ (.refl _) (by omega) (by omega)
 ·have he:j=n:=by omega
  subst he
  refine S.sq<|Q.rg<|Q.mv U<|Q.mv U<|Q.bi U U U<|Q.nt<|S.cF U (decide_eq_false (by omega))<|UW.exit<|UQ.pass<|UQ.pass<|UQ.here<|UQ.then<|Q.rg<|Q.mv U<|Q.as U<|Q.nt<|UW.ret<|S.bH (λ_=>ak U U)<|?_
  rfl
end Go.Proofs.YtonpfomjoiaacaaGreatDoor
end
section
namespace Go.iG
open Go Go.RowKit
section
variable [Rd]
section
variable {P:Program} {n:Nat} {ol:List Oper} {Q:sN->Sl->Hp->Prop} {H0:Hp} {B k1:List Nat} {pre:List (Option (Nat×AV))} {l:List (Nat×AV)} {I keep:List (Nat×Ob)} {dm t e:Nat}
def qY(P:Program)(ol:List Oper)(B:List Nat)(pre:List (Option (Nat×AV)))(l:List (Nat×AV))(dm t:Nat):List (Nat×ByteArray×AV)->Prop
 |[]=>True
 |(i,s,u)::r=>(∃x y z ty ps af,ol[i]? =some ⟨none,.insert t x y z,ty,ps,af,none⟩/\∀id,aW (oh B (dstsOf ol) pre [(dm,.mpr id)] l i) x=some (.mpr id)/\aW (oh B (dstsOf ol) pre [(dm,.mpr id)] l i) y=some (.v (.string s))/\aW (oh B (dstsOf ol) pre [(dm,.mpr id)] l i) z=some u)/\qY P ol B pre l dm t r
theorem qY.get:∀{ins:List (Nat×ByteArray×AV)},qY P ol B pre l dm t ins->∀{i s u},(i,s,u)∈ins->∃x y z ty ps af,ol[i]? =some ⟨none,.insert t x y z,ty,ps,af,none⟩/\∀id,aW (oh B (dstsOf ol) pre [(dm,.mpr id)] l i) x=some (.mpr id)/\aW (oh B (dstsOf ol) pre [(dm,.mpr id)] l i) y=some (.v (.string s))/\aW (oh B (dstsOf ol) pre [(dm,.mpr id)] l i) z=some u
 |[],_,_,_,_,h=>by cases h
 |_::_,h,i,s,u,hm=>by
  rcases List.mem_cons.1 hm with e|hm
  ·cases e;exact h.1
  ·exact h.2.get hm
theorem qY.cons{i:Nat}{s:ByteArray}{u:AV}{r:List (Nat×ByteArray×AV)}{x y z:Operand}{ty:TypeId}{ps:String}{af:Array Edge}(ho:ol[i]? =some ⟨none,.insert t x y z,ty,ps,af,none⟩)(h:qY P ol B pre l dm t r)(h1:∀id,aW (oh B (dstsOf ol) pre [(dm,.mpr id)] l i) x=some (.mpr id):=by intro _;rfl)(h2:∀id,aW (oh B (dstsOf ol) pre [(dm,.mpr id)] l i) y=some (.v (.string s)):=by intro _;rfl)(h3:∀id,aW (oh B (dstsOf ol) pre [(dm,.mpr id)] l i) z=some u:=by intro _;rfl):
 qY P ol B pre l dm t ((i,s,u)::r):=⟨⟨x,y,z,ty,ps,af,ho,λid=>⟨h1 id,h2 id,h3 id⟩⟩,h⟩
theorem Has.up{p:Nat×Ob}:∀{keep I:List (Nat×Ob)},Has keep I->Has keep (p::I)
 |_,_,.n=> .n
 |_,_,.c k h t=> .c (k+1) (by simpa using h) t.up
theorem Has.pick(I:List (Nat×Ob)):∀kp,Has (pick I kp) I
 |[]=> .n
 |k::ks=>by
  unfold iG.pick
  split
  ·exact .c k (by assumption) (Has.pick I ks)
  ·exact Has.pick I ks
theorem Ic{s:ByteArray}:∀{es:List (ByteArray×AV)},s∉es.map (·.1)->l6 es s=none
 |[],_=>rfl
 |p::r,h=>by
  rw[List.map_cons,List.mem_cons,not_or] at h
  unfold l6
  rw[if_neg (λe=>h.1 (by first|exact e|exact e.symm))]
  exact Ic h.2
def WW(B:List Nat):List Nat->Bool
 |[]=>true
 |a::r=>(r.all λb=>(B.getD b 0).testBit a)&&WW B r
theorem UW.drawm{O9:Nat}{x':TypeId}{ps':String}{af':Array Edge}(hm:P.follows .mixedOrders=true)(kp:List Nat)(B:List Nat)(ds:List (Option Nat))(pre:List (Option (Nat×AV)))(m dm:Nat)(ins:List (Nat×ByteArray×AV))(js tail:List Nat)(hjs:ins.map (·.1)=js)(hpre:(pre.map λo=>o.map (·.1))=ds)(he:mH B ol 0=true)
 (hch:Av B ds (m::(js++tail)) [] (dstsOf ol)=true) (hw:((js++tail).all λi=>(B.getD i 0).testBit m)=true) (hw2:(tail.all λi=>js.all λj=>(B.getD i 0).testBit j)=true) (ho:WW B tail=true) (ht:D6 P t=some e) (hmk:ol[m]? =some ⟨some dm,.makeMap t none,x',ps',af',none⟩) (hdm:dm<n) (hnd:(ins.map (·.2.1)).Nodup)
 (hq:M P n ol H0 I B [] pre l (iG.pick I kp) pre 0) (hi:qY P ol B pre l dm t ins) (hk:∀id es,es.Perm (ins.map (·.2))->CH P n ol Q H0 B pre l (iG.pick I kp) tail [(dm,.mpr id)] ((id,.mp es)::I)):UW P n Q H0 (.region O9 ol.toArray true) l I:=by
 subst hpre hjs
 have hC:=jv.ofN hch
 refine UW.drawR (R:=λrem cr ob=>(rem=m::(ins.map (·.1)++tail)/\cr=[]/\ob=I)\/(∃(id:Nat) (es:List (ByteArray×AV)) (rest:List (Nat×ByteArray×AV)),rest≠[]/\rem.Perm (rest.map (·.1)++tail)/\cr=[(dm,.mpr id)]/\ob=(id,.mp es)::I/\(es++rest.map (·.2)).Perm (ins.map (·.2))/\∀p∈rest,p∈ins)\/
  ∃tl,rem.Perm tl/\WW B tl=true/\CH P n ol Q H0 B pre l (iG.pick I kp) tl cr ob) hm B pre (m::(ins.map (·.1)++tail)) [] he hC ⟨?_,?_,?_⟩ hq (.inl ⟨rfl,rfl,rfl⟩)
 ·rintro rem cr ob (⟨_,_,rfl⟩|⟨id,es,rest,_,_,_,rfl,_⟩|⟨tl,_,_,h⟩)
  ·exact Has.pick _ _
  ·exact(Has.pick _ _).up
  ·exact h.has
 ·rintro cr ob (⟨h,_⟩|⟨id,es,rest,h0,h1,_⟩|⟨tl,h1,_,h⟩)
  ·cases h
  ·have:=h1.length_eq
   cases rest with
   |nil=>exact absurd U h0
   |cons a r=>simp at this
  ·rw[h1.symm.eq_nil] at h
   exact h.2
 ·-- what is left behind an insert
  have after:∀(id:Nat) (es:List (ByteArray×AV)) (rest:List (Nat×ByteArray×AV)) (rem:List Nat),rem.Perm (rest.map (·.1)++tail)->(es++rest.map (·.2)).Perm (ins.map (·.2))->(∀p∈rest,p∈ins)->(rem=m::(ins.map (·.1)++tail)/\[(dm,AV.mpr id)]=[]/\(id,Ob.mp es)::I=I)\/
   (∃(id':Nat) (es':List (ByteArray×AV)) (rest:List (Nat×ByteArray×AV)),rest≠[]/\rem.Perm (rest.map (·.1)++tail)/\[(dm,AV.mpr id)]=[(dm,AV.mpr id')]/\(id,Ob.mp es)::I=(id',Ob.mp es')::I/\(es'++rest.map (·.2)).Perm (ins.map (·.2))/\∀p∈rest,p∈ins)\/
   ∃tl,rem.Perm tl/\WW B tl=true/\CH P n ol Q H0 B pre l (iG.pick I kp) tl [(dm,.mpr id)] ((id,.mp es)::I):=by
   intro id es rest rem h1 h2 h3
   cases rest with
   |nil=>exact .inr (.inr ⟨tail,by simpa using h1,ho,hk id es (by simpa using h2)⟩)
   |cons p r=>exact .inr (.inl ⟨id,es,p::r,by simp,h1,rfl,rfl,h2,h3⟩)
  rintro rem cr ob i (⟨rfl,rfl,rfl⟩|⟨id,es,rest,h0,h1,rfl,rfl,h2,h3⟩|⟨tl,h1,h2,h3⟩) hir hno
  ·rcases List.mem_cons.1 hir with rfl|hir
   ·refine⟨_,hmk,λd hd=>(by cases hd;exact hdm),D.mkm λid=>?_⟩
    rw[List.erase_cons_head]
    exact after id [] ins _ (.refl _) (.refl _) λp hp=>hp
   ·have:=List.all_eq_true.1 hw i hir
    rw[hno m (List.mem_cons_self ..)] at this
    cases this
  ·rcases List.mem_append.1 (h1.mem_iff.1 hir) with hm'|hm'
   ·obtain⟨p,hp,rfl⟩:=List.mem_map.1 hm'
    obtain⟨i,s,u⟩:=p
    obtain⟨a,b,rfl⟩:=List.append_of_mem hp
    obtain⟨x,y,z,ty,ps,af,ho',hv⟩:=hi.get (h3 _ hp)
    obtain⟨v1,v2,v3⟩:=hv id
    have hkeys:((es++(a++(i,s,u)::b).map (·.2)).map (·.1)).Nodup:=by
     refine(h2.map (·.1)).nodup_iff.2 ?_
     rw[List.map_map];exact hnd
    have hs:l6 es s=none:=Ic λhm=>by
     rw[List.map_append,List.nodup_append] at hkeys
     exact hkeys.2.2 s hm s (by simp) U
    refine⟨_,ho',λd hd=>(by cases hd),D.ins 0 ht v1 U v2 v3 hs U λ_=>after id (es++[(s,u)]) (a++b) _ ?_ ?_ λp hp=>h3 p ?_⟩
    ·have hpm:((a++(i,s,u)::b).map (·.1)++tail).Perm (i::((a++b).map (·.1)++tail)):=by
      rw[List.map_append,List.map_cons,List.map_append,List.append_assoc,List.append_assoc];exact List.perm_middle
     have:=(h1.trans hpm).erase i
     rwa [List.erase_cons_head] at this
    ·refine List.Perm.trans ?_ h2
     rw[List.append_assoc]
     refine List.Perm.append_left _ ?_
     rw[List.map_append,List.map_append,List.map_cons,List.singleton_append]
     exact List.perm_middle.symm
    ·rcases List.mem_append.1 hp with h|h
     ·exact List.mem_append_left _ h
     ·exact List.mem_append_right _ (List.mem_cons_of_mem _ h)
   ·exfalso
    cases rest with
    |nil=>exact h0 U
    |cons p r=>
     have e1:=List.all_eq_true.1 (List.all_eq_true.1 hw2 i hm') p.1 (List.mem_map.2 ⟨p,h3 p (List.mem_cons_self ..),rfl⟩)
     rw[hno p.1 (h1.mem_iff.2 (by simp))] at e1
     cases e1
  ·cases tl with
   |nil=>exact absurd (h1.mem_iff.1 hir) List.not_mem_nil
   |cons c r=>
    unfold WW at h2
    simp only[Bool.and_eq_true,List.all_eq_true] at h2
    have hci:i=c:=by
     rcases List.mem_cons.1 (h1.mem_iff.1 hir) with h|h
     ·exact h
     ·have:=h2.1 i h
      rw[hno c (h1.mem_iff.2 (List.mem_cons_self ..))] at this
      cases this
    subst hci
    obtain⟨_,o,g1,g2,g3⟩:=h3
    refine⟨o,g1,g2,λhd=>(g3 hd).mono ?_⟩
    rintro u H' ⟨aM,e1,e2,e3⟩
    refine⟨aM,e1,e2,.inr (.inr ⟨r,?_,h2.2,e3⟩)⟩
    have:=h1.erase i
    rwa [List.erase_cons_head] at this
end
end
end Go.iG
end
