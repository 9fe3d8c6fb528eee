/- A part of the proof. -/
import Derived.Test.YtonpfomjoiaacaaGreatDoorMw29
import Derived.Test.YtonpfomjoiaacaaGreatDoorMw17
import Derived.Test.YtonpfomjoiaacaaGreatDoorMw28
import Derived.Test.YtonpfomjoiaacaaGreatDoorMw12
import Derived.Test.YtonpfomjoiaacaaGreatDoorMw27
import Derived.Test.YtonpfomjoiaacaaGreatDoorMw10
import Derived.Test.YtonpfomjoiaacaaGreatDoorMw14
import Derived.Test.YtonpfomjoiaacaaGreatDoorMw18
set_option maxRecDepth 100000
set_option maxHeartbeats 4000000
set_option linter.unusedSectionVars false
set_option linter.unusedVariables false
set_option linter.unusedSimpArgs false
section
namespace Go.Proofs.YtonpfomjoiaacaaGreatDoor
open Go Go.iG Go.RowKit
theorem NZ:∀(m:Nat) (n:Int) (hm:n.natAbs=m) (h0: -9223372036854775808<=n) (h1:n<=9223372036854775807) (H:Hp),au Tryz.prog 86 [.v (.int .i64 n)] H (bB H (.v (.string (uL n)))):=by
 intro m
 induction m using Nat.strongRecOn with
 |_ m ih=>
 intro n hm h0 h1 H
 have hds:=IW (n.tdiv 10)
 by_cases hn:n<0
 ·by_cases hs:n> -10
  ·have e1:aN 45++aN (48+(0-n))=uL n:=by rw[Int.zero_sub];exact dec_ns hn (by omega)
   refine aF (n:=42) (H0:=H) (I:=[]) Tryz.func86 (by kernel_rfl) U (by rw[Tryz.ntmps86];rfl) .nil<|?_
   refine Q.rg<|Q.as U<|Q.nt<|S.sq<|Q.rg<|Q.mv U<|Q.bi U U U<|Q.nt<|S.cT U (decide_eq_true (by omega))<|S.sq<|Q.rg<|Q.mv U<|Q.bi U U U<|Q.nt<|S.cT U (decide_eq_true (by omega))<|Q.rg<|Q.mv U<|S.qu (Z.neg (r:=0-n) U (IntWalk.i64_in _ (by omega)))<|S.qu (Z.cv (r:=0-n) Tryz.underlying5 U (IntWalk.u8_in _ (by omega)) (by kernel_rfl))<|S.qu (Z.add (r:=48+(0-n)) U U (IntWalk.u8_in _ (by omega)))<|S.qu (Z.bl je U U (bz U))<|S.qu (Z.b2s (s:=aN (48+(0-n))) Tryz.underlying22 Tryz.underlying5 Tryz.underlying9 (congrArg some (IV _ ⟨by omega,by omega⟩)))<|S.qu (Z.eq (u':=.v (.string (uL n))) (Z.cat (p:=aN 45) U U (by rw[aU,aU];decide)) (by rw[e1]))<|?_
   refine Q.as U<|Q.nt<|UW.ret<|UQ.ax<|UQ.ax<|S.bH (λ_=>ak U U)<|?_
   rfl
  ·have hq:n.tdiv 10= -((n.natAbs/10:Nat):Int):=by
    rw[show n= -((n.natAbs:Nat):Int) from by omega,Int.neg_tdiv]
    congr 1
    rw[Int.natAbs_neg,Int.natAbs_natCast];rfl
   have hr:n.tmod 10= -((n.natAbs % 10:Nat):Int):=by
    rw[show n= -((n.natAbs:Nat):Int) from by omega,Int.neg_tmod]
    congr 1
    rw[Int.natAbs_neg,Int.natAbs_natCast];rfl
   have e1:uL (n.tdiv 10)++aN (48+(0-n.tmod 10))=uL n:=by rw[Int.zero_sub];exact dec_nb (by omega)
   have hds:=hds (by omega) (by omega)
   refine aF (n:=42) (H0:=H) (I:=[]) Tryz.func86 (by kernel_rfl) U (by rw[Tryz.ntmps86];rfl) .nil<|?_
   refine Q.rg<|Q.as U<|Q.nt<|S.sq<|Q.rg<|Q.mv U<|Q.bi U U U<|Q.nt<|S.cT U (decide_eq_true (by omega))<|S.sq<|Q.rg<|Q.mv U<|Q.bi U U U<|Q.nt<|S.cF U (decide_eq_false (by omega))<|UW.skip<|UQ.then<|S.sq<|?_
   refine' UW.bG (by kernel_rfl) [0,1,3,0,8,24,56,120,248,504,1023,2047] [some 14,some 15,some 16,some 17,some 18,some 19,some 20,some 21,some 22,some 23,some 24,some 2] [some (14,_),some (15,_),some (16,_),some (17,_),some (18,_),some (19,_),some (20,_),some (21,_),some (22,_),some (23,_),some (24,_),some (2,_)] [] [] U (by decide) (by decide) (M.free (by decide) U U ?iU (M.free (by decide) U U ?iV (M.free (by decide) U U ?iW (M.free (by decide) U U ?iX (M.free (by decide) U U ?iY (M.free (by decide) U U ?iZ (M.free (by decide) U U ?ja (M.free (by decide) U U ?kH (M.free (by decide) U U ?nL (M.free (by decide) U U ?qB (M.free (by decide) U U ?mK (M.free (by decide) U U ?pg M.nil)))))))))))) ?sI
   case iU=>(intro _;exact Z.mv rfl)
   case iV=>(intro _;exact Z.eq (u':=.v (.int .i64 (n.tdiv 10))) (Z.bi rfl rfl rfl) (by rw[IntWalk.i64_in _ (by omega)]))
   case iW=>(intro _;exact Z.call rfl rfl (λH=>ih (n.natAbs/10) (by omega) (n.tdiv 10) (by omega) (by omega) (by omega) H))
   case iX=>(intro _;exact Z.mv rfl)
   case iY=>(intro _;exact Z.bi (vr:=.int .i64 (n.tmod 10)) rfl rfl rfl)
   case iZ=>(intro _;exact Z.neg (r:=0-n.tmod 10) rfl (IntWalk.i64_in _ (by omega)))
   case ja=>(intro _;exact Z.cv (r:=0-n.tmod 10) Tryz.underlying5 rfl (IntWalk.u8_in _ (by omega)) (by kernel_rfl))
   case kH=>(intro _;exact Z.add (r:=48+(0-n.tmod 10)) rfl rfl (IntWalk.u8_in _ (by omega)))
   case nL=>(intro _;exact Z.bl je rfl rfl (bz rfl))
   case qB=>(intro _;exact Z.b2s (s:=aN (48+(0-n.tmod 10))) Tryz.underlying22 Tryz.underlying5 Tryz.underlying9 (congrArg some (IV _ ⟨by omega,by omega⟩)))
   case mK=>(intro _;exact Z.eq (u':=.v (.string (uL n))) (Z.cat rfl rfl (by rw[aU];omega)) (by rw[e1]))
   case pg=>(intro _;exact Z.as rfl)
   refine CH.nil<|?_
   simp only[app,bS]
   refine UQ.then<|UW.ret<|UQ.ax<|S.bH (λ_=>ak U U)<|?_
   rfl
 ·by_cases hs:n<10
  ·have e1:=dec_ps (n:=n) (by omega) hs
   refine aF (n:=42) (H0:=H) (I:=[]) Tryz.func86 (by kernel_rfl) U (by rw[Tryz.ntmps86];rfl) .nil<|?_
   refine Q.rg<|Q.as U<|Q.nt<|S.sq<|Q.rg<|Q.mv U<|Q.bi U U U<|Q.nt<|S.cF U (decide_eq_false (by omega))<|UW.skip<|UQ.then<|S.sq<|Q.rg<|Q.mv U<|Q.bi U U U<|Q.nt<|S.cT U (decide_eq_true (by omega))<|Q.rg<|Q.mv U<|S.qu (Z.cv (r:=n) Tryz.underlying5 U (IntWalk.u8_in _ (by omega)) (by kernel_rfl))<|S.qu (Z.add (r:=48+n) U U (IntWalk.u8_in _ (by omega)))<|S.qu (Z.bl je U U (bz U))<|S.qu (Z.b2s (s:=uL n) Tryz.underlying22 Tryz.underlying5 Tryz.underlying9 (congrArg some (e1▸IV _ ⟨by omega,by omega⟩)))<|Q.as U<|Q.nt<|UW.ret<|UQ.ax<|S.bH (λ_=>ak U U)<|?_
   rfl
  ·have hq:n.tdiv 10=n/10:=Int.tdiv_eq_ediv_of_nonneg (by omega)
   have hr:n.tmod 10=n % 10:=Int.tmod_eq_emod_of_nonneg (by omega)
   have e1:=dec_pb (n:=n) (by omega)
   have hds:=hds (by omega) (by omega)
   refine aF (n:=42) (H0:=H) (I:=[]) Tryz.func86 (by kernel_rfl) U (by rw[Tryz.ntmps86];rfl) .nil<|?_
   refine Q.rg<|Q.as U<|Q.nt<|S.sq<|Q.rg<|Q.mv U<|Q.bi U U U<|Q.nt<|S.cF U (decide_eq_false (by omega))<|UW.skip<|UQ.then<|S.sq<|Q.rg<|Q.mv U<|Q.bi U U U<|Q.nt<|S.cF U (decide_eq_false (by omega))<|UW.skip<|UQ.then<|S.sq<|?_
   refine' UW.bG (by kernel_rfl) [0,1,3,0,8,24,56,120,248,511,1023] [some 32,some 33,some 34,some 35,some 36,some 37,some 38,some 39,some 40,some 41,some 2] [some (32,_),some (33,_),some (34,_),some (35,_),some (36,_),some (37,_),some (38,_),some (39,_),some (40,_),some (41,_),some (2,_)] [] [] U (by decide) (by decide) (M.free (by decide) U U ?uM (M.free (by decide) U U ?uN (M.free (by decide) U U ?uO (M.free (by decide) U U ?uP (M.free (by decide) U U ?uQ (M.free (by decide) U U ?zH (M.free (by decide) U U ?zI (M.free (by decide) U U ?zJ (M.free (by decide) U U ?zK (M.free (by decide) U U ?zL (M.free (by decide) U U ?uR M.nil))))))))))) ?KN
   case uM=>(intro _;exact Z.mv rfl)
   case uN=>(intro _;exact Z.eq (u':=.v (.int .i64 (n.tdiv 10))) (Z.bi rfl rfl rfl) (by rw[IntWalk.i64_in _ (by omega)]))
   case uO=>(intro _;exact Z.call rfl rfl (λH=>ih (n.natAbs/10) (by omega) (n.tdiv 10) (by omega) (by omega) (by omega) H))
   case uP=>(intro _;exact Z.mv rfl)
   case uQ=>(intro _;exact Z.bi (vr:=.int .i64 (n.tmod 10)) rfl rfl rfl)
   case zH=>(intro _;exact Z.cv (r:=n.tmod 10) Tryz.underlying5 rfl (IntWalk.u8_in _ (by omega)) (by kernel_rfl))
   case zI=>(intro _;exact Z.add (r:=48+n.tmod 10) rfl rfl (IntWalk.u8_in _ (by omega)))
   case zJ=>(intro _;exact Z.bl je rfl rfl (bz rfl))
   case zK=>(intro _;exact Z.b2s (s:=aN (48+n.tmod 10)) Tryz.underlying22 Tryz.underlying5 Tryz.underlying9 (congrArg some (IV _ ⟨by omega,by omega⟩)))
   case zL=>(intro _;exact Z.eq (u':=.v (.string (uL n))) (Z.cat rfl rfl (by rw[aU];omega)) (by rw[e1]))
   case uR=>(intro _;exact Z.as rfl)
   refine CH.nil<|?_
   simp only[app,bS]
   refine UQ.then<|UW.ret<|S.bH (λ_=>ak U U)<|?_
   rfl
theorem GY(a b:ByteArray)(ha:a.size<=1000)(hb:b.size<=1000)(l:List ByteArray)(hl:l.length<=140737488355328)(hs:(gX l comma).size<=10000000000000)(i len:Nat)(hle:len=l.length)(H:Hp)(hi:H i=some (.row 9 1 (l.map encS))):au Tryz.prog 104 [.v (.string a),.own i 0 len 1,.v (.string b)] H (bB H (.v (.string ((a++gX l comma)++b)))):=by
 refine aF (n:=13) (H0:=H) (I:=[]) Tryz.func104 (by kernel_rfl) U (by rw[Tryz.ntmps104];rfl) .nil<|?_
 refine Q.rg<|Q.as U<|Q.nt<|Q.rg<|Q.mv U<|Q.mv U<|S.qu (Z.oV U U (λ_=>Kc l comma hl (by omega) i len hle _ hi))<|S.qu (Z.cat U U (by omega))<|Q.mv U<|S.qu (Z.cat U U (by rw[bf];omega))<|?_
 refine Q.as U<|Q.nt<|UW.ret<|S.bH (λ_=>ak U U)<|?_
 rfl
theorem getD_lt{α:Type}{l:List α}{i:Nat}{z:α}(h:i<l.length):l.getD i z=l[i]:=by simp[List.getD,h]
theorem N7{k n:Int}{t:ByteArray}{ks:List ByteArray}{vs:List V}(hp:Pr (.mk k n t ks vs)):(-9223372036854775808<=n/\n<=9223372036854775807)/\t.size<=1000000000/\vg ks<=1000000000/\∀b,tQ (fP b ks (vs.map aR))<=1000000000:=by
 have hw:=hp.wt
 rw[j3] at hw
 have hn:(-9223372036854775808<=n/\n<=9223372036854775807):=by
  have:=hp.num
  cases this with|mk _ _ _ _ _ a b c=>exact⟨a,b⟩
 refine⟨hn,by omega,by omega,λb=>?_⟩
 have h1:=yx b ks (vs.map aR)
 have h2:=LW vs (λx hx=>xw (hp.kid hx).num)
 omega
theorem CU(P:List ByteArray)(j:Nat)(h:j<P.length):P.take (j+1)=P.take j++[P.getD j ⟨#[]⟩]:=by rw[List.take_add_one,List.getElem?_eq_getElem h,getD_lt h];rfl
theorem GZ(P:List ByteArray)(j:Nat)(h:j<P.length)(x:ByteArray)(hx:P.getD j ⟨#[]⟩=x):((P.take j).map encS).take j++[[.v (.string x)]]=(P.take (j+1)).map encS:=by
 rw[CU P j h,hx,List.map_append,List.take_of_length_le (by rw[List.length_map,List.length_take];omega)];rfl
theorem vo(x:V)(hf:Fits x):∀(hp:Pr x) (H:Hp) (hG:fA H),au Tryz.prog 66 [.agg (aC x)] H (bB H (.v (.string (aR x)))):=by
 induction hf with
 |mk k n t ks vs hl1 hl2 hkid ih=>
 intro hp H hG
 obtain⟨hn,ht,hwk,hsum⟩:=N7 hp
 have hsum:=hsum (decide (k=5))
 have hvl:=aS vs
 have hkl:(ks.map encS).length=ks.length:=List.length_map ..
 have hPl:(fP (decide (k=5)) ks (vs.map aR)).length=vs.length:=by rw[yw,List.length_map]
 refine aF (n:=67) (H0:=H) (I:=[]) Tryz.func66 (by kernel_rfl) U (by rw[Tryz.ntmps66];rfl) .nil<|?_
 refine Q.rg<|S.dd<|D.box U U U λp1=>Q.as U<|Q.nt<|Q.rg<|Q.as U<|US.kZ 3 9 1 (by decide) U λp3=>Q.nt<|S.sq<|Q.rg<|Q.fa bU U<|Q.lc 1 dR U U U<|S.qu (Z.fM bP U)<|Q.mv U<|Q.nt<|UW.block<|S.loop (λj:Nat×Nat=>[(10,.v (.int .i64 (j.1:Int))),(9,.v (.int .i64 ((bu vs).length:Int))),(8,.sl (bu vs)),(3,.own j.2 0 j.1 1),(1,.ptr p1 0)]) (λj=>[(j.2,.row 9 1 (((fP (decide (k=5)) ks (vs.map aR)).take j.1).map encS)),(p1,.box 26 (aC (.mk k n t ks vs)))]) (λj=>j.1<=vs.length) (λj=>vs.length-j.1) (0,p3) (Nat.zero_le _) ⟨rfl,rfl,rfl,rfl,rfl,trivial⟩ (.refl _)<|?_
 rintro⟨j,r⟩ hj
 dsimp only at hj⊢
 have hrl:(((fP (decide (k=5)) ks (vs.map aR)).take j).map encS).length=j:=by rw[List.length_map,List.length_take];omega
 by_cases hlt:j<vs.length
 ·have hgl:=gH vs j hlt
  have hat:=GV (decide (k=5)) ks (vs.map aR) j (by rw[List.length_map];exact hlt)
  have hsz:=LV (fP (decide (k=5)) ks (vs.map aR)) j (by omega)
  rw[<-getD_lt (z:=⟨#[]⟩),hat] at hsz
  have hpj:(vs.map aR).getD j ⟨#[]⟩=aR vs[j]:=by rw[getD_lt (by rw[List.length_map];exact hlt),List.getElem_map]
  rw[hpj] at hat hsz
  by_cases hb:k=5/\j<ks.length
  ·have Ij:=eY ks j hb.2
   have hkb:=QO ks j hb.2
   rw[if_pos ⟨decide_eq_true hb.1,hb.2⟩,getD_lt hb.2] at hat hsz
   rw[bf,bf,aU] at hsz
   have hsn:=GZ _ j (by omega) _ hat
   focus
    refine Q.rg<|Q.bi U U U<|Q.nt<|S.sq<|S.cT U (decide_eq_true (by omega))<|UW.skip<|UQ.then<|S.sq<|UW.block<|Q.rg<|Q.mv U<|S.qu (Z.ia bP U U (by omega) (by assumption) (by exact Y _))<|?_
    refine S.qu (Z.IG av U (Y _))<|S.dd<|D.al z26 U U U λp5=>Q.as U<|S.s<|D.vW 0 av U U U U (by exact az _) (Y _) U U λ_=>?_
    refine Q.nt<|Q.rg<|S.qu (Z.bW 0 av U U (Y _))<|S.qu (Z.bK U U (λ_ hS=>ih _ (List.getElem_mem hlt) (hp.kid (List.getElem_mem hlt)) _ (hG.mono hS)))<|Q.as U<|Q.nt<|S.sq<|Q.rg<|Q.fa bT U<|Q.lc 2 fB U U U<|Q.bi U U U<|Q.mv U<|?_
    refine S.tE 20 (λVn=>?_) (λVn=>?_)
    rotate_left
    omega
    refine Q.on (Z.mv U)<|Q.on (Z.fa dJ U)<|Q.on (Z.dM 2 dB U U U)<|Q.on (Z.fM aZ U)<|Q.on (Z.bi U U U)<|Q.pk U U<|Q.nt<|S.cT U (decide_eq_true (by omega))<|S.rg<|Q.fa dJ U<|Q.lc 2 dB U U U<|Q.mv U<|S.qu (Z.ia aZ U U (by omega) (by assumption) (by rfl))<|?_
    refine S.qu (Z.fO dW U)<|S.qu (Z.call U U (λ_=>Fw _ (by omega) _))<|S.qu (Z.cat (q:=aN 58) U U (by rw[aU];omega))<|?_
    refine Q.mv U<|S.qu (Z.cat U U (by rw[bf,aU];omega))<|?_
    refine Q.as U<|Q.nt<|S.rg<|Q.mv U<|Q.mv U<|S.qu (Z.bl dQ U U (bz U))<|S.dd<|D.ap 1 dQ U U (by omega) U (.sl (kz U)) (by first|omega|(simp;omega)) hsn λp39=>?_
    refine Q.as U<|US.nil<|UQ.aB<|UQ.then<|S.rg<|S.qu (Z.add (r:=((j+1:Nat):Int)) U U (IntWalk.i64_in _ (by omega)))<|Q.mv U<|US.nil<|?_
    refine S.back (j+1,p39) ⟨rfl,rfl,rfl,rfl,rfl,trivial⟩ (by repeat (first|exact List.Sublist.refl _|exact List.nil_sublist _|refine .cons_cons _ ?_|refine .cons _ ?_)) (by omega) (by omega)
  ·rw[if_neg (λh=>hb ⟨of_decide_eq_true h.1,h.2⟩)] at hat hsz
   have hsn:=GZ _ j (by omega) _ hat
   refine Q.rg<|Q.bi U U U<|Q.nt<|S.sq<|S.cT U (decide_eq_true (by omega))<|UW.skip<|UQ.then<|S.sq<|UW.block<|Q.rg<|Q.mv U<|S.qu (Z.ia bP U U (by omega) (by assumption) (by exact Y _))<|?_
   refine S.qu (Z.IG av U (Y _))<|S.dd<|D.al z26 U U U λp5=>Q.as U<|S.s<|D.vW 0 av U U U U (by exact az _) (Y _) U U λ_=>?_
   refine Q.nt<|Q.rg<|S.qu (Z.bW 0 av U U (Y _))<|S.qu (Z.bK U U (λ_ hS=>ih _ (List.getElem_mem hlt) (hp.kid (List.getElem_mem hlt)) _ (hG.mono hS)))<|Q.as U<|Q.nt<|S.sq<|Q.rg<|Q.fa bT U<|Q.lc 2 fB U U U<|Q.bi U U U<|Q.mv U<|?_
   refine S.tE 20 (λVn=>?_) (λVn=>?_)
   refine Q.on (Z.mv U)<|Q.on (Z.fa dJ U)<|Q.on (Z.dM 2 dB U U U)<|Q.on (Z.fM aZ U)<|Q.on (Z.bi U U U)<|Q.pk U U<|Q.nt<|S.cF U (decide_eq_false (by omega))<|UW.skip<|UQ.then<|S.rg<|Q.mv U<|Q.mv U<|S.qu (Z.bl dQ U U (bz U))<|S.dd<|D.ap 1 dQ U U (by omega) U (.sl (kz U)) (by first|omega|(simp;omega)) hsn λp39=>?_
   refine Q.as U<|US.nil<|UQ.aB<|UQ.then<|S.rg<|S.qu (Z.add (r:=((j+1:Nat):Int)) U U (IntWalk.i64_in _ (by omega)))<|Q.mv U<|US.nil<|?_
   refine S.back (j+1,p39) ⟨rfl,rfl,rfl,rfl,rfl,trivial⟩ (by repeat (first|exact List.Sublist.refl _|exact List.nil_sublist _|refine .cons_cons _ ?_|refine .cons _ ?_)) (by omega) (by omega)
   refine Q.of<|Q.of<|Q.of<|Q.of<|Q.of<|Q.pk U U<|Q.nt<|S.cF U U<|UW.skip<|UQ.then<|S.rg<|Q.mv U<|Q.mv U<|S.qu (Z.bl dQ U U (bz U))<|S.dd<|D.ap 1 dQ U U (by omega) U (.sl (kz U)) (by first|omega|(simp;omega)) hsn λp39=>?_
   refine Q.as U<|US.nil<|UQ.aB<|UQ.then<|S.rg<|S.qu (Z.add (r:=((j+1:Nat):Int)) U U (IntWalk.i64_in _ (by omega)))<|Q.mv U<|US.nil<|?_
   refine S.back (j+1,p39) ⟨rfl,rfl,rfl,rfl,rfl,trivial⟩ (by repeat (first|exact List.Sublist.refl _|exact List.nil_sublist _|refine .cons_cons _ ?_|refine .cons _ ?_)) (by omega) (by omega)
 ·have hjl:j=vs.length:=by omega
  have hall:(fP (decide (k=5)) ks (vs.map aR)).take j=fP (decide (k=5)) ks (vs.map aR):=List.take_of_length_le (by omega)
  rw[hall]
  rw[hall] at hrl
  have hjs:=ve (fP (decide (k=5)) ks (vs.map aR))
  by_cases hk5:k=5
  ·rw[decide_eq_true hk5] at hjs hPl hsum hrl⊢
   refine Q.rg<|Q.bi U U U<|Q.nt<|S.sq<|S.cF U (decide_eq_false (by omega))<|UW.exit<|UQ.pass<|UQ.pass<|UQ.here<|UQ.then<|S.sq<|Q.rg<|Q.fa bT U<|Q.lc 1 fB U U U<|Q.nt<|UW.block<|Q.rg<|Q.bi U U U<|Q.as U<|Q.nt<|S.cF U (gG (by omega))<|Q.rg<|Q.bi U U U<|Q.as U<|Q.nt<|S.cF U (gG (by omega))<|Q.rg<|Q.bi U U U<|Q.as U<|Q.nt<|S.cF U (gG (by omega))<|Q.rg<|Q.bi U U U<|Q.as U<|Q.nt<|S.cF U (gG (by omega))<|Q.rg<|Q.bi U U U<|Q.as U<|Q.nt<|S.cT U (jP (by omega))<|Q.rg<|Q.mv U<|S.qu (Z.oV U U (λhd=>GY (aN 123) (aN 125) (by decide) (by decide) _ (by omega) (by omega) r j (by omega) _ (hd.at_ (k:=0) U)))<|Q.as U<|Q.nt<|UW.ret<|UQ.aI<|UQ.ax<|S.bH (λ_=>ak U U)<|?_
   focus ((congr 2;rw[gL];unfold CS;(repeat' split)<;>first|rfl|omega);done)
  ·rw[decide_eq_false hk5] at hjs hPl hsum hrl⊢
   refine Q.rg<|Q.bi U U U<|Q.nt<|S.sq<|S.cF U (decide_eq_false (by omega))<|UW.exit<|UQ.pass<|UQ.pass<|UQ.here<|UQ.then<|S.sq<|Q.rg<|Q.fa bT U<|Q.lc 1 fB U U U<|Q.nt<|UW.block<|Q.rg<|Q.bi U U U<|Q.as U<|Q.nt<|?_
   refine S.cE U (λhc43=>?_) (λhc43=>?_)
   refine Q.rg<|Q.as U<|Q.nt<|UW.ret<|UQ.aI<|UQ.ax<|S.bH (λ_=>ak U U)<|?_
   focus ((congr 2;rw[gL];unfold CS;(repeat' split)<;>first|rfl|omega);done)
   refine Q.rg<|Q.bi U U U<|Q.as U<|Q.nt<|?_
   refine S.cE U (λWl=>?_) (λWl=>?_)
   refine Q.rg<|Q.fa jf U<|Q.lc 1 lg U U U<|Q.bi U U U<|S.qu (Z.call U U (λ_=>DX _ _))<|Q.as U<|Q.nt<|UW.ret<|UQ.aI<|UQ.ax<|S.bH (λ_=>ak U U)<|?_
   focus ((congr 2;rw[gL];unfold CS;(repeat' split)<;>first|rfl|omega);done)
   refine Q.rg<|Q.bi U U U<|Q.as U<|Q.nt<|?_
   refine S.cE U (λFC=>?_) (λFC=>?_)
   refine Q.rg<|Q.fa jf U<|Q.lc 1 lg U U U<|S.qu (Z.bK U U (λ_ hS=>Fx n hn.1 hn.2 _ (hG.mono hS)))<|Q.as U<|Q.nt<|UW.ret<|UQ.aI<|UQ.ax<|S.bH (λ_=>ak U U)<|?_
   focus ((congr 2;rw[gL];unfold CS;(repeat' split)<;>first|rfl|omega);done)
   refine Q.rg<|Q.bi U U U<|Q.as U<|Q.nt<|?_
   refine S.cE U (λQu=>?_) (λQu=>?_)
   refine Q.rg<|Q.fa kY U<|Q.lc 1 dW U U U<|S.qu (Z.call U U (λ_=>Fw _ (by omega) _))<|Q.as U<|Q.nt<|UW.ret<|UQ.aI<|UQ.ax<|S.bH (λ_=>ak U U)<|?_
   focus ((congr 2;rw[gL];unfold CS;(repeat' split)<;>first|rfl|omega);done)
   refine Q.rg<|Q.bi U U U<|Q.as U<|Q.nt<|S.cF U (gG (by omega))<|UW.skip<|UQ.aB<|UQ.then<|Q.rg<|Q.mv U<|S.qu (Z.oV U U (λhd=>GY (aN 91) (aN 93) (by decide) (by decide) _ (by omega) (by omega) r j (by omega) _ (hd.at_ (k:=0) U)))<|Q.as U<|Q.nt<|UW.ret<|S.bH (λ_=>ak U U)<|?_
   focus ((congr 2;rw[gL];unfold CS;(repeat' split)<;>first|rfl|omega);done)
theorem aah{k n:Int}{t:ByteArray}{ks:List ByteArray}{vs:List V}(h1:k=1)(h2:n=1):aR (.mk k n t ks vs)=⟨#[116,114,117,101]⟩:=by
 subst h1 h2
 rw[gL]
 show Fy true=_
 kernel_rfl
theorem Wm{k n:Int}{t:ByteArray}{ks:List ByteArray}{vs:List V}(h1:k=1)(h2:¬n=1):aR (.mk k n t ks vs)=⟨#[102,97,108,115,101]⟩:=by
 subst h1
 rw[gL]
 show Fy (n==1)=_
 rw[show(n==1)=false from by simpa using h2]
 kernel_rfl
theorem Br(a:ByteArray):gX [] comma++a=a:=zW (by rw[xq];rfl)
theorem Jh(P:List ByteArray)(j:Nat)(h:j<P.length)(x:ByteArray)(hx:P.getD j ⟨#[]⟩=x)(h0:0<j):(gX (P.take j) comma++comma)++x=gX (P.take (j+1)) comma:=by
 rw[CU P j h,hx,Jf,if_neg (λh1=>by have:=congrArg List.length h1;rw[List.length_take,List.length_nil] at this;omega)]
theorem G5(P:List ByteArray)(h:0<P.length)(x:ByteArray)(hx:P.getD 0 ⟨#[]⟩=x):x=gX (P.take (0+1)) comma:=by
 rw[CU P 0 h,hx,List.take_zero,Jf,if_pos U]
theorem xy(x:V)(hf:Fits x):∀(hp:Pr x) (H:Hp),au Tryz.prog 37 [.agg (aC x)] H (bB H (.v (.string (aR x)))):=by
 induction hf with
 |mk k n t ks vs hl1 hl2 hkid ih=>
 intro hp H
 obtain⟨hn,ht,hwk,hsum⟩:=N7 hp
 have hsum:=hsum (decide (k=5))
 have hvl:=aS vs
 have hkl:(ks.map encS).length=ks.length:=List.length_map ..
 have hPl:(fP (decide (k=5)) ks (vs.map aR)).length=vs.length:=by rw[yw,List.length_map]
 refine aF (n:=71) (H0:=H) (I:=[]) Tryz.func37 (by kernel_rfl) U (by rw[Tryz.ntmps37];rfl) .nil<|?_
 refine Q.rg<|S.dd<|D.box U U U λp1=>Q.as U<|Q.nt<|S.sq<|Q.rg<|Q.fa bT U<|Q.lc 0 fB U U U<|Q.nt<|UW.block<|Q.rg<|Q.bi U U U<|Q.as U<|Q.nt<|?_
 refine S.cE U (λVu=>?_) (λVu=>?_)
 refine Q.rg<|Q.as U<|Q.nt<|UW.ret<|UQ.aI<|UQ.ax<|S.bH (λ_=>ak U U)<|?_
 focus ((congr 2;rw[gL];unfold CS;(repeat' split)<;>first|rfl|omega);done)
 refine Q.rg<|Q.bi U U U<|Q.as U<|Q.nt<|?_
 refine S.cE U (λhc9=>?_) (λhc9=>?_)
 refine S.sq<|Q.rg<|Q.fa jf U<|Q.lc 0 lg U U U<|Q.bi U U U<|Q.nt<|?_
 refine S.cE U (λhc13=>?_) (λhc13=>?_)
 refine Q.rg<|Q.as U<|Q.nt<|UW.ret<|UQ.ax<|UQ.aI<|UQ.ax<|S.bH (λ_=>ak U U)<|?_
 focus (rw[aah (by assumption) (by assumption)];done)
 refine UW.skip<|UQ.then<|Q.rg<|Q.as U<|Q.nt<|UW.ret<|UQ.aI<|UQ.ax<|S.bH (λ_=>ak U U)<|?_
 focus (rw[Wm (by assumption) (by assumption)];done)
 refine Q.rg<|Q.bi U U U<|Q.as U<|Q.nt<|?_
 refine S.cE U (λVq=>?_) (λVq=>?_)
 refine Q.rg<|Q.fa jf U<|Q.lc 0 lg U U U<|S.qu (Z.call U U (λ_=>NZ _ n U hn.1 hn.2 _))<|Q.as U<|Q.nt<|UW.ret<|UQ.aI<|UQ.ax<|S.bH (λ_=>ak U U)<|?_
 focus ((congr 2;rw[gL];unfold CS;(repeat' split)<;>first|rfl|omega);done)
 refine Q.rg<|Q.bi U U U<|Q.as U<|Q.nt<|?_
 refine S.cE U (λhc19=>?_) (λhc19=>?_)
 refine Q.rg<|Q.fa kY U<|Q.lc 0 dW U U U<|S.qu (Z.call U U (λ_=>wX _ (by omega) _))<|Q.as U<|Q.nt<|UW.ret<|UQ.aI<|UQ.ax<|S.bH (λ_=>ak U U)<|?_
 focus ((congr 2;rw[gL];unfold CS;(repeat' split)<;>first|rfl|omega);done)
 refine UW.skip<|UQ.aB<|UQ.then<|Q.rg<|Q.as U<|Q.nt<|S.sq<|Q.rg<|Q.as U<|Q.nt<|UW.block<|S.loop (λj:Nat=>[(4,.v (.int .i64 (j:Int))),(3,.v (.string (gX ((fP (decide (k=5)) ks (vs.map aR)).take j) comma))),(1,.ptr p1 0)]) (λj=>[(p1,.box 26 (aC (.mk k n t ks vs)))]) (λj=>j<=vs.length) (λj=>vs.length-j) 0 (Nat.zero_le _) ⟨rfl,rfl,rfl,trivial⟩ (.refl _)<|?_
 rintro j hj
 have hjs:=ve ((fP (decide (k=5)) ks (vs.map aR)).take j)
 have hjt:=Jg (fP (decide (k=5)) ks (vs.map aR)) j
 by_cases hlt:j<vs.length
 ·have hgl:=gH vs j hlt
  have hat:=GV (decide (k=5)) ks (vs.map aR) j (by rw[List.length_map];exact hlt)
  have hsz:=LV (fP (decide (k=5)) ks (vs.map aR)) j (by omega)
  rw[<-getD_lt (z:=⟨#[]⟩),hat] at hsz
  have hpj:(vs.map aR).getD j ⟨#[]⟩=aR vs[j]:=by rw[getD_lt (by rw[List.length_map];exact hlt),List.getElem_map]
  rw[hpj] at hat hsz
  by_cases hb:k=5/\j<ks.length
  ·have Ij:=eY ks j hb.2
   have hkb:=QO ks j hb.2
   rw[if_pos ⟨decide_eq_true hb.1,hb.2⟩,getD_lt hb.2] at hat hsz
   rw[bf,bf,aU] at hsz
   by_cases h0:0<j
   ·have hst:(((gX ((fP (decide (k=5)) ks (vs.map aR)).take j) comma++comma)++kG ks[j])++aN 58)++aR vs[j]=gX ((fP (decide (k=5)) ks (vs.map aR)).take (j+1)) comma:=by
     rw[<-Jh _ j (by omega) _ hat h0];simp only[ByteArray.append_assoc]
    focus
     refine S.sq<|Q.rg<|Q.mv U<|Q.fa bU U<|Q.lc 0 dR U U U<|S.qu (Z.fM bP U)<|Q.bi U U U<|Q.nt<|S.cT U (decide_eq_true (by omega))<|UW.skip<|UQ.then<|S.sq<|UW.block<|S.sq<|Q.rg<|Q.mv U<|Q.bi U U U<|Q.nt<|S.cT U (decide_eq_true (by omega))<|S.rg<|Q.mv U<|S.qu (Z.cat (q:=comma) U U (by show _+1<=_;omega))<|?_
     refine Q.as U<|Q.nt<|S.sq<|Q.rg<|Q.fa bT U<|Q.lc 0 fB U U U<|Q.bi U U U<|Q.mv U<|?_
     refine S.tE 38 (λhc38=>?_) (λhc38=>?_)
     rotate_left
     omega
     refine Q.on (Z.mv U)<|Q.on (Z.fa dJ U)<|Q.on (Z.dM 0 dB U U U)<|Q.on (Z.fM aZ U)<|Q.on (Z.bi U U U)<|Q.pk U U<|Q.nt<|S.cT U (decide_eq_true (by omega))<|S.rg<|Q.mv U<|Q.fa dJ U<|Q.lc 0 dB U U U<|Q.mv U<|S.qu (Z.ia aZ U U (by omega) (by assumption) (by rfl))<|?_
     refine S.qu (Z.fO dW U)<|S.qu (Z.call U U (λ_=>wX _ (by omega) _))<|S.qu (Z.cat U U (by rw[bf];show _+1+_<=_;omega))<|?_
     refine S.qu (Z.cat (q:=aN 58) U U (by rw[bf,bf,aU];show _+1+_+1<=_;omega))<|?_
     refine Q.as U<|Q.nt<|S.rg<|Q.mv U<|Q.fa bU U<|Q.lc 0 dR U U U<|Q.mv U<|S.qu (Z.ia bP U U (by omega) (by assumption) (by exact Y _))<|?_
     refine S.qu (Z.IG av U (Y _))<|S.qu (Z.call U U (λ_=>ih _ (List.getElem_mem hlt) (hp.kid (List.getElem_mem hlt)) _))<|S.qu (Z.eq (u':=.v (.string (gX ((fP (decide (k=5)) ks (vs.map aR)).take (j+1)) comma))) (Z.cat U U (by rw[bf,bf,bf,aU];show _+1+_+1+_<=_;omega)) (by rw[hst]))<|?_
     refine Q.as U<|US.nil<|UQ.aB<|UQ.then<|S.rg<|Q.mv U<|S.qu (Z.add (r:=((j+1:Nat):Int)) U U (IntWalk.i64_in _ (by omega)))<|Q.as U<|US.nil<|?_
     refine S.back _ ⟨rfl,rfl,rfl,trivial⟩ (.refl _) (by omega) (by omega)
   ·have hj0:j=0:=by omega
    subst hj0
    have hst:((gX [] comma++kG ks[0])++aN 58)++aR vs[0]=gX ((fP (decide (k=5)) ks (vs.map aR)).take (0+1)) comma:=by
     rw[<-G5 _ (by omega) _ hat,Br]
    focus
     refine S.sq<|Q.rg<|Q.mv U<|Q.fa bU U<|Q.lc 0 dR U U U<|S.qu (Z.fM bP U)<|Q.bi U U U<|Q.nt<|S.cT U (decide_eq_true (by omega))<|UW.skip<|UQ.then<|S.sq<|UW.block<|S.sq<|Q.rg<|Q.mv U<|Q.bi U U U<|Q.nt<|S.cF U (decide_eq_false (by omega))<|UW.skip<|UQ.then<|S.sq<|Q.rg<|Q.fa bT U<|Q.lc 0 fB U U U<|Q.bi U U U<|Q.mv U<|?_
     refine S.tE 38 (λhc38=>?_) (λhc38=>?_)
     rotate_left
     omega
     refine Q.on (Z.mv U)<|Q.on (Z.fa dJ U)<|Q.on (Z.dM 0 dB U U U)<|Q.on (Z.fM aZ U)<|Q.on (Z.bi U U U)<|Q.pk U U<|Q.nt<|S.cT U (decide_eq_true (by omega))<|S.rg<|Q.mv U<|Q.fa dJ U<|Q.lc 0 dB U U U<|Q.mv U<|S.qu (Z.ia aZ U U (by omega) (by assumption) (by rfl))<|?_
     refine S.qu (Z.fO dW U)<|S.qu (Z.call U U (λ_=>wX _ (by omega) _))<|S.qu (Z.cat (p:=gX [] comma) U U (by rw[show(gX [] comma).size=0 from rfl];omega))<|?_
     refine S.qu (Z.cat (q:=aN 58) U U (by rw[Br,aU];omega))<|?_
     refine Q.as U<|Q.nt<|S.rg<|Q.mv U<|Q.fa bU U<|Q.lc 0 dR U U U<|Q.mv U<|S.qu (Z.ia bP U U (by omega) (by assumption) (by exact Y _))<|?_
     refine S.qu (Z.IG av U (Y _))<|S.qu (Z.call U U (λ_=>ih _ (List.getElem_mem hlt) (hp.kid (List.getElem_mem hlt)) _))<|S.qu (Z.eq (u':=.v (.string (gX ((fP (decide (k=5)) ks (vs.map aR)).take (0+1)) comma))) (Z.cat U U (by rw[Br,bf,aU];omega)) (by rw[hst]))<|?_
     refine Q.as U<|US.nil<|UQ.aB<|UQ.then<|S.rg<|Q.mv U<|S.qu (Z.add (r:=((0+1:Nat):Int)) U U (IntWalk.i64_in _ (by omega)))<|Q.as U<|US.nil<|?_
     refine S.back _ ⟨rfl,rfl,rfl,trivial⟩ (.refl _) (by omega) (by omega)
  ·rw[if_neg (λh=>hb ⟨of_decide_eq_true h.1,h.2⟩)] at hat hsz
   by_cases h0:0<j
   ·have hst:=Jh _ j (by omega) _ hat h0
    refine S.sq<|Q.rg<|Q.mv U<|Q.fa bU U<|Q.lc 0 dR U U U<|S.qu (Z.fM bP U)<|Q.bi U U U<|Q.nt<|S.cT U (decide_eq_true (by omega))<|UW.skip<|UQ.then<|S.sq<|UW.block<|S.sq<|Q.rg<|Q.mv U<|Q.bi U U U<|Q.nt<|S.cT U (decide_eq_true (by omega))<|S.rg<|Q.mv U<|S.qu (Z.cat (q:=comma) U U (by show _+1<=_;omega))<|?_
    refine Q.as U<|Q.nt<|S.sq<|Q.rg<|Q.fa bT U<|Q.lc 0 fB U U U<|Q.bi U U U<|Q.mv U<|?_
    refine S.tE 38 (λhc38=>?_) (λhc38=>?_)
    refine Q.on (Z.mv U)<|Q.on (Z.fa dJ U)<|Q.on (Z.dM 0 dB U U U)<|Q.on (Z.fM aZ U)<|Q.on (Z.bi U U U)<|Q.pk U U<|Q.nt<|S.cF U (decide_eq_false (by omega))<|UW.skip<|UQ.then<|S.rg<|Q.mv U<|Q.fa bU U<|Q.lc 0 dR U U U<|Q.mv U<|S.qu (Z.ia bP U U (by omega) (by assumption) (by exact Y _))<|?_
    refine S.qu (Z.IG av U (Y _))<|S.qu (Z.call U U (λ_=>ih _ (List.getElem_mem hlt) (hp.kid (List.getElem_mem hlt)) _))<|S.qu (Z.eq (u':=.v (.string (gX ((fP (decide (k=5)) ks (vs.map aR)).take (j+1)) comma))) (Z.cat U U (by rw[bf];show _+1+_<=_;omega)) (by rw[hst]))<|?_
    refine Q.as U<|US.nil<|UQ.aB<|UQ.then<|S.rg<|Q.mv U<|S.qu (Z.add (r:=((j+1:Nat):Int)) U U (IntWalk.i64_in _ (by omega)))<|Q.as U<|US.nil<|?_
    refine S.back _ ⟨rfl,rfl,rfl,trivial⟩ (.refl _) (by omega) (by omega)
    refine Q.of<|Q.of<|Q.of<|Q.of<|Q.of<|Q.pk U U<|Q.nt<|S.cF U U<|UW.skip<|UQ.then<|S.rg<|Q.mv U<|Q.fa bU U<|Q.lc 0 dR U U U<|Q.mv U<|S.qu (Z.ia bP U U (by omega) (by assumption) (by exact Y _))<|?_
    refine S.qu (Z.IG av U (Y _))<|S.qu (Z.call U U (λ_=>ih _ (List.getElem_mem hlt) (hp.kid (List.getElem_mem hlt)) _))<|S.qu (Z.eq (u':=.v (.string (gX ((fP (decide (k=5)) ks (vs.map aR)).take (j+1)) comma))) (Z.cat U U (by rw[bf];show _+1+_<=_;omega)) (by rw[hst]))<|?_
    refine Q.as U<|US.nil<|UQ.aB<|UQ.then<|S.rg<|Q.mv U<|S.qu (Z.add (r:=((j+1:Nat):Int)) U U (IntWalk.i64_in _ (by omega)))<|Q.as U<|US.nil<|?_
    refine S.back _ ⟨rfl,rfl,rfl,trivial⟩ (.refl _) (by omega) (by omega)
   ·have hj0:j=0:=by omega
    subst hj0
    have hst:=G5 _ (by omega) _ hat
    refine S.sq<|Q.rg<|Q.mv U<|Q.fa bU U<|Q.lc 0 dR U U U<|S.qu (Z.fM bP U)<|Q.bi U U U<|Q.nt<|S.cT U (decide_eq_true (by omega))<|UW.skip<|UQ.then<|S.sq<|UW.block<|S.sq<|Q.rg<|Q.mv U<|Q.bi U U U<|Q.nt<|S.cF U (decide_eq_false (by omega))<|UW.skip<|UQ.then<|S.sq<|Q.rg<|Q.fa bT U<|Q.lc 0 fB U U U<|Q.bi U U U<|Q.mv U<|?_
    refine S.tE 38 (λhc38=>?_) (λhc38=>?_)
    refine Q.on (Z.mv U)<|Q.on (Z.fa dJ U)<|Q.on (Z.dM 0 dB U U U)<|Q.on (Z.fM aZ U)<|Q.on (Z.bi U U U)<|Q.pk U U<|Q.nt<|S.cF U (decide_eq_false (by omega))<|UW.skip<|UQ.then<|S.rg<|Q.mv U<|Q.fa bU U<|Q.lc 0 dR U U U<|Q.mv U<|S.qu (Z.ia bP U U (by omega) (by assumption) (by exact Y _))<|?_
    refine S.qu (Z.IG av U (Y _))<|S.qu (Z.call U U (λ_=>ih _ (List.getElem_mem hlt) (hp.kid (List.getElem_mem hlt)) _))<|S.qu (Z.eq (u':=.v (.string (gX ((fP (decide (k=5)) ks (vs.map aR)).take (0+1)) comma))) (Z.cat (p:=gX [] comma) U U (by rw[show(gX [] comma).size=0 from rfl];omega)) (by rw[Br,<-hst]))<|?_
    refine Q.as U<|US.nil<|UQ.aB<|UQ.then<|S.rg<|Q.mv U<|S.qu (Z.add (r:=((0+1:Nat):Int)) U U (IntWalk.i64_in _ (by omega)))<|Q.as U<|US.nil<|?_
    refine S.back _ ⟨rfl,rfl,rfl,trivial⟩ (.refl _) (by omega) (by omega)
    refine Q.of<|Q.of<|Q.of<|Q.of<|Q.of<|Q.pk U U<|Q.nt<|S.cF U U<|UW.skip<|UQ.then<|S.rg<|Q.mv U<|Q.fa bU U<|Q.lc 0 dR U U U<|Q.mv U<|S.qu (Z.ia bP U U (by omega) (by assumption) (by exact Y _))<|?_
    refine S.qu (Z.IG av U (Y _))<|S.qu (Z.call U U (λ_=>ih _ (List.getElem_mem hlt) (hp.kid (List.getElem_mem hlt)) _))<|S.qu (Z.eq (u':=.v (.string (gX ((fP (decide (k=5)) ks (vs.map aR)).take (0+1)) comma))) (Z.cat (p:=gX [] comma) U U (by rw[show(gX [] comma).size=0 from rfl];omega)) (by rw[Br,<-hst]))<|?_
    refine Q.as U<|US.nil<|UQ.aB<|UQ.then<|S.rg<|Q.mv U<|S.qu (Z.add (r:=((0+1:Nat):Int)) U U (IntWalk.i64_in _ (by omega)))<|Q.as U<|US.nil<|?_
    refine S.back _ ⟨rfl,rfl,rfl,trivial⟩ (.refl _) (by omega) (by omega)
 ·have hjl:j=vs.length:=by omega
  have hall:(fP (decide (k=5)) ks (vs.map aR)).take j=fP (decide (k=5)) ks (vs.map aR):=List.take_of_length_le (by omega)
  rw[hall] at hjs hjt⊢
  by_cases hk5:k=5
  ·rw[decide_eq_true hk5] at hjs hPl hsum⊢
   refine S.sq<|Q.rg<|Q.mv U<|Q.fa bU U<|Q.lc 0 dR U U U<|S.qu (Z.fM bP U)<|Q.bi U U U<|Q.nt<|S.cF U (decide_eq_false (by omega))<|UW.exit<|UQ.pass<|UQ.pass<|UQ.here<|UQ.then<|S.sq<|Q.rg<|Q.fa bT U<|Q.lc 0 fB U U U<|Q.bi U U U<|Q.nt<|S.cT U (jP (by omega))<|Q.rg<|Q.mv U<|S.qu (Z.cat (p:=aN 123) U U (by rw[aU];omega))<|?_
   refine S.qu (Z.cat (q:=aN 125) U U (by rw[bf,aU,aU];omega))<|?_
   refine Q.as U<|Q.nt<|UW.ret<|UQ.ax<|S.bH (λ_=>ak U U)<|?_
   focus ((congr 2;rw[gL];unfold CS;(repeat' split)<;>first|rfl|omega);done)
  ·rw[decide_eq_false hk5] at hjs hPl hsum⊢
   refine S.sq<|Q.rg<|Q.mv U<|Q.fa bU U<|Q.lc 0 dR U U U<|S.qu (Z.fM bP U)<|Q.bi U U U<|Q.nt<|S.cF U (decide_eq_false (by omega))<|UW.exit<|UQ.pass<|UQ.pass<|UQ.here<|UQ.then<|S.sq<|Q.rg<|Q.fa bT U<|Q.lc 0 fB U U U<|Q.bi U U U<|Q.nt<|S.cF U (gG (by omega))<|UW.skip<|UQ.then<|Q.rg<|Q.mv U<|S.qu (Z.cat (p:=aN 91) U U (by rw[aU];omega))<|?_
   refine S.qu (Z.cat (q:=aN 93) U U (by rw[bf,aU,aU];omega))<|?_
   refine Q.as U<|Q.nt<|UW.ret<|S.bH (λ_=>ak U U)<|?_
   focus ((congr 2;rw[gL];unfold CS;(repeat' split)<;>first|rfl|omega);done)
def aY:ByteArray:=⟨#[104,97,115,104,101,115]⟩
def cz:ByteArray:=⟨#[117,110,115,105,103,110,101,100]⟩
def gM:ByteArray:=⟨#[115,104,97,50,53,54]⟩
def bytesOf(s:ByteArray):List Int:=s.data.toList.map λb=>(b.toNat:Int)
theorem rZ(s:ByteArray):(bytesOf s).length=s.size:=by unfold bytesOf;rw[List.length_map];rfl
theorem vv(s:ByteArray):fo (bytesOf s):=by
 intro c hc
 obtain⟨b,_,rfl⟩:=List.mem_map.1 hc
 have:=b.toNat_lt
 omega
theorem vz(s:ByteArray):bN s=bC (bytesOf s):=by unfold bN bC bytesOf;rw[List.map_map];rfl
theorem kK(k n:Int)(t:ByteArray):Fits (.mk k n t [] []):=.mk _ _ _ _ _ (Nat.zero_le _) (Nat.zero_le _) (λx h=>by cases h)
theorem kV(s:ByteArray):Fits (dz s):=kK _ _ _
theorem tX{x:V}(hx:Fits x)(key:ByteArray):Fits (bq x key):=by
 unfold bq
 split
 ·rename_i i hp
  cases hx with
  |mk k n t ks vs h1 h2 h3=>
   refine .mk _ _ _ _ _ ?_ ?_ (λy hy=>?_)
   ·unfold cutAt cutV;simp[zl,Af];omega
   ·unfold cutAt cutV;simp[zl,Af];omega
   ·unfold cutAt cutV at hy
    rcases List.mem_append.1 hy with h|h
    ·exact h3 _ (List.mem_of_mem_take (List.mem_of_mem_take h))
    ·exact h3 _ (List.mem_of_mem_take (List.mem_of_mem_drop h))
 ·exact hx
def fJ(x:V):V:=bq (bq x aY) cz
def ed(x:V):ByteArray:=dO (ry (bytesOf (aR (fJ x))))
theorem Er{x:V}(h:Pr x):(aR x).size<=1000000000:=Nat.le_trans (xw h.num) h.wt
theorem Wn(x:V)(hx:Fits x)(hp:Pr (fJ x))(H:Hp)(hG:fA H)(hN:Cx H):au Tryz.prog 105 [.agg (aC x)] H (bB H (.v (.string (ed x)))):=by
 have hf1:=tX hx aY
 have hf2:Fits (fJ x):=tX hf1 cz
 have hsz:=Er hp
 have hbl:=rZ (aR (fJ x))
 have hbo:=vv (aR (fJ x))
 have hsl:=qI (bytesOf (aR (fJ x)))
 have hso:=El (bytesOf (aR (fJ x)))
 have hw1:∀H,au Tryz.prog 148 [.agg (aC x),.v (.string aY)] H (bB H (.agg (aC (bq x aY)))):=λH=>AL x hx aY H
 have hw2:∀H,au Tryz.prog 148 [.agg (aC (bq x aY)),.v (.string cz)] H (bB H (.agg (aC (fJ x)))):=λH=>AL _ hf1 cz H
 have hpr:∀H,fA H->au Tryz.prog 66 [.agg (aC (fJ x))] H (bB H (.v (.string (aR (fJ x))))):=λH h=>vo (fJ x) hf2 hp H h
 unfold ed
 generalize bq x aY=w1 at*
 generalize fJ x=w2 at*
 generalize aR w2=pt at*
 obtain⟨k,n,t,ks,vs⟩:=x
 refine aF (n:=12) (H0:=H) (I:=[]) Tryz.func105 (by kernel_rfl) U (by rw[Tryz.ntmps105];rfl) .nil<|?_
 refine Q.rg<|S.dd<|D.box U U U λp1=>Q.as U<|Q.nt<|Q.rg<|S.qu (Z.bW 0 av U U U)<|S.qu (Z.call U U (λH=>hw1 H))<|S.qu (Z.call U U (λH=>hw2 H))<|S.qu (Z.bK U U (λ_ hS=>hpr _ (hG.mono hS)))<|Q.as U<|Q.nt<|Q.rg<|Q.mv U<|S.qu (Z.eq (u':=.sl (bC (bytesOf pt))) (Z.s2b Tryz.underlying9 Tryz.underlying22 (by rfl) U (by omega)) (by rw[vz]))<|?_
 refine S.qu (Z.oV U U (λhd=>NI (bytesOf pt) (by omega) hbo _ (hN.ext U)))<|S.qu (Z.oV U U (λhd=>GA (ry (bytesOf pt)) (by omega) (by omega) hso _ (hN.ext U)))<|Q.as U<|Q.nt<|UW.ret<|S.bH (λ_=>ak U U)<|?_
 rfl
theorem Ji(x:V)(hx:Fits x)(hp:Pr (fJ x))(H:Hp)(hG:fA H):au Tryz.prog 105 [.agg (aC x)] H (bB H (.v (.string (ed x)))):=
 au.lowly hG.raw (Wn x hx hp _ hG.low (Cx.raw hG.raw)) U
def mV(h:ByteArray):V:=aQ zeroV gM (dz h)
def dE(x:V):V:=aQ x aY (mV (ed x))
def jN(x:V):Bool:=gV (aH (aH x aY).1 gM).1 (dz (ed x))
theorem zX(h:ByteArray):Fits (mV h):=by
 have hw:=uY zeroV gM (dz h)
 have e:mV h=.mk 5 0 ⟨#[]⟩ [gM] [dz h]:=rfl
 rw[e]
 exact .mk _ _ _ _ _ (by show 1<=1000000;decide) (by show 1<=1000000;decide) (λy hy=>by rw[List.mem_singleton.1 hy];exact kV h)
theorem N8(x:V)(hx:Fits x)(hp:Pr (fJ x))(H:Hp)(hG:fA H):au Tryz.prog 78 [.agg (aC x)] H (bB H (.agg (aC (dE x)))):=by
 have hh:∀H,fA H->au Tryz.prog 105 [.agg (aC x)] H (bB H (.v (.string (ed x)))):=λH h=>Ji x hx hp H h
 have hw1:∀H,au Tryz.prog 77 [.agg (aC zeroV),.v (.string gM),.agg (aC (dz (ed x)))] H (bB H (.agg (aC (mV (ed x))))):=λH=>xZ zeroV nQ gM _ (kV _) H
 have hw2:∀H,au Tryz.prog 77 [.agg (aC x),.v (.string aY),.agg (aC (mV (ed x)))] H (bB H (.agg (aC (dE x)))):=λH=>xZ x hx aY _ (zX _) H
 generalize dE x=sx at*
 generalize ed x=h at*
 generalize mV h=sh at*
 obtain⟨k,n,t,ks,vs⟩:=x
 refine aF (n:=10) (H0:=H) (I:=[]) Tryz.func78 (by kernel_rfl) U (by rw[Tryz.ntmps78];rfl) .nil<|?_
 refine Q.rg<|S.dd<|D.box U U U λp1=>S.dd<|D.al z26 U U U λp2=>Q.nt<|S.sq<|?_
 refine' UW.bG (by kernel_rfl) [0,0,0,4,12,30,63,127] [some 3,some 4,some 5,some 6,some 7,some 8,some 9,none] [some (3,_),some (4,_),some (5,_),some (6,_),some (7,_),some (8,_),some (9,_),none] [7] [0,2] U (by decide) (by decide) (M.held (by decide) U U ?iU (M.free (by decide) U U ?iV (M.held (by decide) U U ?iW (M.free (by decide) U U ?iX (M.free (by decide) U U ?iY (M.free (by decide) U U ?iZ (M.free (by decide) U U ?ja (M.skip M.nil)))))))) ?sI
 case iU=>exact Z.bW 1 av rfl rfl rfl
 case iV=>(intro _;exact Z.bd [] gU rfl rfl rfl rfl rfl rfl)
 case iW=>exact Z.bW 1 av rfl rfl rfl
 case iX=>(intro _;exact Z.bK rfl rfl (λ_ hS=>hh _ (hG.mono hS)))
 case iY=>(intro _;exact Z.call rfl rfl (λH=>qA h H))
 case iZ=>(intro _;exact Z.call rfl rfl (λH=>hw1 H))
 case ja=>(intro _;exact Z.call rfl rfl (λH=>hw2 H))
 refine CH.bX U U<|D.vW 0 av U U U U (by exact az _) (Y _) U U λ_=>?_
 refine CH.nil<|?_
 simp only[app,bS]
 refine UQ.then<|UW.ret<|S.bH (λhd=>aX (k:=0) hd U U U gQ (by rw[Y];exact gT))<|?_
 rfl
theorem N9(x:V)(hx:Fits x)(hp:Pr (fJ x))(H:Hp)(hG:fA H):au Tryz.prog 67 [.agg (aC x)] H (bB H (.v (.bool (jN x)))):=by
 have hf1:=mR hx aY
 have hf2:=mR hf1 gM
 have hh:∀H,fA H->au Tryz.prog 105 [.agg (aC x)] H (bB H (.v (.string (ed x)))):=λH h=>Ji x hx hp H h
 have hg1:∀H,au Tryz.prog 63 [.agg (aC x),.v (.string aY)] H (bB H (.kX [.agg (aC (aH x aY).1),.v (.bool (aH x aY).2)])):=λH=>tq x hx aY H
 have hg2:∀H,au Tryz.prog 63 [.agg (aC (aH x aY).1),.v (.string gM)] H (bB H (.kX [.agg (aC (aH (aH x aY).1 gM).1),.v (.bool (aH (aH x aY).1 gM).2)])):=λH=>tq _ hf1 gM H
 have hsm:∀H,au Tryz.prog 81 [.agg (aC (aH (aH x aY).1 gM).1),.agg (aC (dz (ed x)))] H (bB H (.v (.bool (jN x)))):=λH=>IQ _ hf2 _ H
 generalize jN x=b at*
 generalize ed x=h at*
 generalize (aH (aH x aY).1 gM).2=b2 at*
 generalize (aH (aH x aY).1 gM).1=y2 at*
 generalize (aH x aY).2=b1 at*
 generalize (aH x aY).1=y1 at*
 obtain⟨k,n,t,ks,vs⟩:=x
 obtain⟨k1,n1,t1,ks1,vs1⟩:=y1
 obtain⟨k2,n2,t2,ks2,vs2⟩:=y2
 refine aF (n:=22) (H0:=H) (I:=[]) Tryz.func67 (by kernel_rfl) U (by rw[Tryz.ntmps67];rfl) .nil<|?_
 refine Q.rg<|S.dd<|D.box U U U λp1=>Q.as U<|Q.nt<|Q.rg<|S.qu (Z.bW 0 av U U U)<|S.qu (Z.call U U (λH=>hg1 H))<|Q.mv U<|S.qu (Z.ex U U)<|S.qu (Z.ex U U)<|S.dd<|D.al z26 U U U λp3=>S.s<|D.st 0 av U U U U U U U U λ_=>Q.as U<|Q.nt<|Q.rg<|S.qu (Z.bW 0 av U U U)<|S.qu (Z.call U U (λH=>hg2 H))<|Q.mv U<|S.qu (Z.ex U U)<|S.qu (Z.ex U U)<|S.dd<|D.al z26 U U U λp5=>S.s<|D.st 0 av U U U U U U U U λ_=>Q.as U<|Q.nt<|S.sq<|?_
 refine' UW.bG (by kernel_rfl) [0,0,2,6,15,31] [some 17,some 18,some 19,some 20,some 21,some 2] [some (17,_),some (18,_),some (19,_),some (20,_),some (21,_),some (2,_)] [] [0,1] U (by decide) (by decide) (M.held (by decide) U U ?jG (M.held (by decide) U U ?jH (M.free (by decide) U U ?jI (M.free (by decide) U U ?jJ (M.free (by decide) U U ?jK (M.free (by decide) U U ?kE M.nil)))))) ?uH
 case jG=>exact Z.bW 0 av rfl rfl rfl
 case jH=>exact Z.bW 2 av rfl rfl rfl
 case jI=>(intro _;exact Z.bK rfl rfl (λ_ hS=>hh _ (hG.mono hS)))
 case jJ=>(intro _;exact Z.call rfl rfl (λH=>qA h H))
 case jK=>(intro _;exact Z.call rfl rfl (λH=>hsm H))
 case kE=>(intro _;exact Z.as rfl)
 refine CH.nil<|?_
 simp only[app,bS]
 refine UQ.then<|UW.ret<|S.bH (λ_=>ak U U)<|?_
 rfl
theorem Oa(a:ByteArray):uF a a=true:=by unfold uF;simp
theorem Jj{α:Type}{f:α->α->Bool}(l:List α)(h:∀a∈l,f a a=true):mh f l l=true:=
 nI U λi h1 _=>h _ (List.getElem_mem h1)
theorem CV(x:V)(hx:Fits x):gV x x=true:=by
 induction hx with
 |mk k n t ks vs h1 h2 h ih=>
 rw[gV,pR,Jj _ ih,Jj _ (λa _=>Oa a),Oa]
 simp
theorem Ev.gY{x:V}{N:Nat}(h:Ev x N)(key:ByteArray)(y:V):aH (aQ x key y) key=(y,true):=by
 obtain⟨k,n,t,ks,vs⟩:=x
 have h1:k=5:=h.k
 subst h1
 exact Go.Proofs.YtonpfomjoiaacaaGreatDoor.gY h.len h.GU key y
end Go.Proofs.YtonpfomjoiaacaaGreatDoor
end
