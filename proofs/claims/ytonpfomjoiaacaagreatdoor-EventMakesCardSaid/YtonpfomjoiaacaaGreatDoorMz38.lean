/- A part of the proof. -/
import Derived.Test.YtonpfomjoiaacaaGreatDoorMz37
import Derived.Test.YtonpfomjoiaacaaGreatDoorMz23
set_option maxRecDepth 100000
set_option maxHeartbeats 4000000
set_option linter.unusedSectionVars false
set_option linter.unusedVariables false
set_option linter.unusedSimpArgs false
section
namespace Go.Proofs.YtonpfomjoiaacaaGreatDoor
open Go Go.fT Go.RowKit
theorem Mi:∀(m:Nat) (n:Int) (hm:n.natAbs=m) (h0: -9223372036854775808<=n) (h1:n<=9223372036854775807) (H:Hp),au Tryz.prog 86 [.v (.int .i64 n)] H (bz H (.v (.string (sH n)))):=by
 intro m
 induction m using Nat.strongRecOn with
 |_ m ih=>
 intro n hm h0 h1 H
 have hds:=Gv (n.tdiv 10)
 by_cases hn:n<0
 ·by_cases hs:n> -10
  ·have e1:aN 45++aN (48+(0-n))=sH n:=by rw[Int.zero_sub];exact abY hn (by omega)
   refine aF (n:=42) (H0:=H) (I:=[]) Tryz.func86 (by kernel_rfl) U (by rw[Tryz.ntmps86];rfl) .nil<|?_
   refine Q.rg<|Q.as U<|Q.nt<|S.sq<|Q.rg<|Q.mv U<|Q.bi U U U<|Q.nt<|S.cT U (decide_eq_true (by omega))<|S.sq<|Q.rg<|Q.mv U<|Q.bi U U U<|Q.nt<|S.cT U (decide_eq_true (by omega))<|Q.rg<|Q.mv U<|S.qu (Z.neg (r:=0-n) U (IntWalk.i64_in _ (by omega)))<|S.qu (Z.cv (r:=0-n) Tryz.underlying5 U (IntWalk.u8_in _ (by omega)) (by kernel_rfl))<|S.qu (Z.add (r:=48+(0-n)) U U (IntWalk.u8_in _ (by omega)))<|S.qu (Z.bl iK U U (bA U))<|S.qu (Z.b2s (s:=aN (48+(0-n))) Tryz.underlying22 Tryz.underlying5 Tryz.underlying9 (congrArg some (Lg _ ⟨by omega,by omega⟩)))<|S.qu (Z.eq (u':=.v (.string (sH n))) (Z.cat (p:=aN 45) U U (by rw[aV,aV];decide)) (by rw[e1]))<|?_
   refine Q.as U<|Q.nt<|UW.ret<|UQ.ax<|UQ.ax<|S.bK (λ_=>ak U U)<|?_
   rfl
  ·have hq:n.tdiv 10= -((n.natAbs/10:Nat):Int):=by
    rw[show n= -((n.natAbs:Nat):Int) from by omega,Int.neg_tdiv]
    congr 1
    rw[Int.natAbs_neg,Int.natAbs_natCast];rfl
   have hr:n.tmod 10= -((n.natAbs % 10:Nat):Int):=by
    rw[show n= -((n.natAbs:Nat):Int) from by omega,Int.neg_tmod]
    congr 1
    rw[Int.natAbs_neg,Int.natAbs_natCast];rfl
   have e1:sH (n.tdiv 10)++aN (48+(0-n.tmod 10))=sH n:=by rw[Int.zero_sub];exact abZ (by omega)
   have hds:=hds (by omega) (by omega)
   refine aF (n:=42) (H0:=H) (I:=[]) Tryz.func86 (by kernel_rfl) U (by rw[Tryz.ntmps86];rfl) .nil<|?_
   refine Q.rg<|Q.as U<|Q.nt<|S.sq<|Q.rg<|Q.mv U<|Q.bi U U U<|Q.nt<|S.cT U (decide_eq_true (by omega))<|S.sq<|Q.rg<|Q.mv U<|Q.bi U U U<|Q.nt<|S.cF U (decide_eq_false (by omega))<|UW.skip<|UQ.then<|S.sq<|?_
   refine' UW.bG (by kernel_rfl) [0,1,3,0,8,24,56,120,248,504,1023,2047] [some 14,some 15,some 16,some 17,some 18,some 19,some 20,some 21,some 22,some 23,some 24,some 2] [some (14,_),some (15,_),some (16,_),some (17,_),some (18,_),some (19,_),some (20,_),some (21,_),some (22,_),some (23,_),some (24,_),some (2,_)] [] [] U (by decide) (by decide) (M.free (by decide) U U ?iX (M.free (by decide) U U ?iY (M.free (by decide) U U ?iZ (M.free (by decide) U U ?ja (M.free (by decide) U U ?jb (M.free (by decide) U U ?jc (M.free (by decide) U U ?jd (M.free (by decide) U U ?kH (M.free (by decide) U U ?o6 (M.free (by decide) U U ?sI (M.free (by decide) U U ?nS (M.free (by decide) U U ?nT M.nil)))))))))))) ?sj
   case iX=>(intro _;exact Z.mv rfl)
   case iY=>(intro _;exact Z.eq (u':=.v (.int .i64 (n.tdiv 10))) (Z.bi rfl rfl rfl) (by rw[IntWalk.i64_in _ (by omega)]))
   case iZ=>(intro _;exact Z.call rfl rfl (λH=>ih (n.natAbs/10) (by omega) (n.tdiv 10) (by omega) (by omega) (by omega) H))
   case ja=>(intro _;exact Z.mv rfl)
   case jb=>(intro _;exact Z.bi (vr:=.int .i64 (n.tmod 10)) rfl rfl rfl)
   case jc=>(intro _;exact Z.neg (r:=0-n.tmod 10) rfl (IntWalk.i64_in _ (by omega)))
   case jd=>(intro _;exact Z.cv (r:=0-n.tmod 10) Tryz.underlying5 rfl (IntWalk.u8_in _ (by omega)) (by kernel_rfl))
   case kH=>(intro _;exact Z.add (r:=48+(0-n.tmod 10)) rfl rfl (IntWalk.u8_in _ (by omega)))
   case o6=>(intro _;exact Z.bl iK rfl rfl (bA rfl))
   case sI=>(intro _;exact Z.b2s (s:=aN (48+(0-n.tmod 10))) Tryz.underlying22 Tryz.underlying5 Tryz.underlying9 (congrArg some (Lg _ ⟨by omega,by omega⟩)))
   case nS=>(intro _;exact Z.eq (u':=.v (.string (sH n))) (Z.cat rfl rfl (by rw[aV];omega)) (by rw[e1]))
   case nT=>(intro _;exact Z.as rfl)
   refine CH.nil<|?_
   simp only[app,bV]
   refine UQ.then<|UW.ret<|UQ.ax<|S.bK (λ_=>ak U U)<|?_
   rfl
 ·by_cases hs:n<10
  ·have e1:=ab0 (n:=n) (by omega) hs
   refine aF (n:=42) (H0:=H) (I:=[]) Tryz.func86 (by kernel_rfl) U (by rw[Tryz.ntmps86];rfl) .nil<|?_
   refine Q.rg<|Q.as U<|Q.nt<|S.sq<|Q.rg<|Q.mv U<|Q.bi U U U<|Q.nt<|S.cF U (decide_eq_false (by omega))<|UW.skip<|UQ.then<|S.sq<|Q.rg<|Q.mv U<|Q.bi U U U<|Q.nt<|S.cT U (decide_eq_true (by omega))<|Q.rg<|Q.mv U<|S.qu (Z.cv (r:=n) Tryz.underlying5 U (IntWalk.u8_in _ (by omega)) (by kernel_rfl))<|S.qu (Z.add (r:=48+n) U U (IntWalk.u8_in _ (by omega)))<|S.qu (Z.bl iK U U (bA U))<|S.qu (Z.b2s (s:=sH n) Tryz.underlying22 Tryz.underlying5 Tryz.underlying9 (congrArg some (e1▸Lg _ ⟨by omega,by omega⟩)))<|Q.as U<|Q.nt<|UW.ret<|UQ.ax<|S.bK (λ_=>ak U U)<|?_
   rfl
  ·have hq:n.tdiv 10=n/10:=Int.tdiv_eq_ediv_of_nonneg (by omega)
   have hr:n.tmod 10=n % 10:=Int.tmod_eq_emod_of_nonneg (by omega)
   have e1:=ab1 (n:=n) (by omega)
   have hds:=hds (by omega) (by omega)
   refine aF (n:=42) (H0:=H) (I:=[]) Tryz.func86 (by kernel_rfl) U (by rw[Tryz.ntmps86];rfl) .nil<|?_
   refine Q.rg<|Q.as U<|Q.nt<|S.sq<|Q.rg<|Q.mv U<|Q.bi U U U<|Q.nt<|S.cF U (decide_eq_false (by omega))<|UW.skip<|UQ.then<|S.sq<|Q.rg<|Q.mv U<|Q.bi U U U<|Q.nt<|S.cF U (decide_eq_false (by omega))<|UW.skip<|UQ.then<|S.sq<|?_
   refine' UW.bG (by kernel_rfl) [0,1,3,0,8,24,56,120,248,511,1023] [some 32,some 33,some 34,some 35,some 36,some 37,some 38,some 39,some 40,some 41,some 2] [some (32,_),some (33,_),some (34,_),some (35,_),some (36,_),some (37,_),some (38,_),some (39,_),some (40,_),some (41,_),some (2,_)] [] [] U (by decide) (by decide) (M.free (by decide) U U ?sJ (M.free (by decide) U U ?sK (M.free (by decide) U U ?sM (M.free (by decide) U U ?sN (M.free (by decide) U U ?sO (M.free (by decide) U U ?xS (M.free (by decide) U U ?xU (M.free (by decide) U U ?xV (M.free (by decide) U U ?xW (M.free (by decide) U U ?xX (M.free (by decide) U U ?sP M.nil))))))))))) ?Je
   case sJ=>(intro _;exact Z.mv rfl)
   case sK=>(intro _;exact Z.eq (u':=.v (.int .i64 (n.tdiv 10))) (Z.bi rfl rfl rfl) (by rw[IntWalk.i64_in _ (by omega)]))
   case sM=>(intro _;exact Z.call rfl rfl (λH=>ih (n.natAbs/10) (by omega) (n.tdiv 10) (by omega) (by omega) (by omega) H))
   case sN=>(intro _;exact Z.mv rfl)
   case sO=>(intro _;exact Z.bi (vr:=.int .i64 (n.tmod 10)) rfl rfl rfl)
   case xS=>(intro _;exact Z.cv (r:=n.tmod 10) Tryz.underlying5 rfl (IntWalk.u8_in _ (by omega)) (by kernel_rfl))
   case xU=>(intro _;exact Z.add (r:=48+n.tmod 10) rfl rfl (IntWalk.u8_in _ (by omega)))
   case xV=>(intro _;exact Z.bl iK rfl rfl (bA rfl))
   case xW=>(intro _;exact Z.b2s (s:=aN (48+n.tmod 10)) Tryz.underlying22 Tryz.underlying5 Tryz.underlying9 (congrArg some (Lg _ ⟨by omega,by omega⟩)))
   case xX=>(intro _;exact Z.eq (u':=.v (.string (sH n))) (Z.cat rfl rfl (by rw[aV];omega)) (by rw[e1]))
   case sP=>(intro _;exact Z.as rfl)
   refine CH.nil<|?_
   simp only[app,bV]
   refine UQ.then<|UW.ret<|S.bK (λ_=>ak U U)<|?_
   rfl
theorem EY(a b:ByteArray)(ha:a.size<=1000)(hb:b.size<=1000)(l:List ByteArray)(hl:l.length<=140737488355328)(hs:(gu l comma).size<=10000000000000)(i len:Nat)(hle:len=l.length)(H:Hp)(hi:H i=some (.row 9 1 (l.map encS))):au Tryz.prog 104 [.v (.string a),.own i 0 len 1,.v (.string b)] H (bz H (.v (.string ((a++gu l comma)++b)))):=by
 refine aF (n:=13) (H0:=H) (I:=[]) Tryz.func104 (by kernel_rfl) U (by rw[Tryz.ntmps104];rfl) .nil<|?_
 refine Q.rg<|Q.as U<|Q.nt<|Q.rg<|Q.mv U<|Q.mv U<|S.qu (Z.nK U U (λ_=>Iz l comma hl (by omega) i len hle _ hi))<|S.qu (Z.cat U U (by omega))<|Q.mv U<|S.qu (Z.cat U U (by rw[aZ];omega))<|?_
 refine Q.as U<|Q.nt<|UW.ret<|S.bK (λ_=>ak U U)<|?_
 rfl
theorem getD_lt{α:Type}{l:List α}{i:Nat}{z:α}(h:i<l.length):l.getD i z=l[i]:=by simp[List.getD,h]
theorem Mj{k n:Int}{t:ByteArray}{ks:List ByteArray}{vs:List V}(hp:Pr (.mk k n t ks vs)):(-9223372036854775808<=n/\n<=9223372036854775807)/\t.size<=1000000000/\tH ks<=1000000000/\∀b,rf (fo b ks (vs.map aO))<=1000000000:=by
 have hw:=hp.wt
 rw[jB] at hw
 have hn:(-9223372036854775808<=n/\n<=9223372036854775807):=by
  have:=hp.num
  cases this with|mk _ _ _ _ _ a b c=>exact⟨a,b⟩
 refine⟨hn,by omega,by omega,λb=>?_⟩
 have h1:=wB b ks (vs.map aO)
 have h2:=J7 vs (λx hx=>vv (hp.kid hx).num)
 omega
theorem Be(P:List ByteArray)(j:Nat)(h:j<P.length):P.take (j+1)=P.take j++[P.getD j ⟨#[]⟩]:=by rw[List.take_add_one,List.getElem?_eq_getElem h,getD_lt h];rfl
theorem EZ(P:List ByteArray)(j:Nat)(h:j<P.length)(x:ByteArray)(hx:P.getD j ⟨#[]⟩=x):((P.take j).map encS).take j++[[.v (.string x)]]=(P.take (j+1)).map encS:=by
 rw[Be P j h,hx,List.map_append,List.take_of_length_le (by rw[List.length_map,List.length_take];omega)];rfl
theorem tJ(x:V)(hf:Fits x):∀(hp:Pr x) (H:Hp) (hG:gU H),au Tryz.prog 66 [.agg (aD x)] H (bz H (.v (.string (aO x)))):=by
 induction hf with
 |mk k n t ks vs hl1 hl2 hkid ih=>
 intro hp H hG
 obtain⟨hn,ht,hwk,hsum⟩:=Mj hp
 have hsum:=hsum (decide (k=5))
 have hvl:=aP vs
 have hkl:(ks.map encS).length=ks.length:=List.length_map ..
 have hPl:(fo (decide (k=5)) ks (vs.map aO)).length=vs.length:=by rw[wz,List.length_map]
 refine aF (n:=67) (H0:=H) (I:=[]) Tryz.func66 (by kernel_rfl) U (by rw[Tryz.ntmps66];rfl) .nil<|?_
 refine Q.rg<|S.dd<|D.box U U U λp1=>Q.as U<|Q.nt<|Q.rg<|Q.as U<|US.kG 3 9 1 (by decide) U λp3=>Q.nt<|S.sq<|Q.rg<|Q.fa bO U<|Q.lc 1 dF U U U<|S.qu (Z.fG bM U)<|Q.mv U<|Q.nt<|UW.block<|S.loop (λj:Nat×Nat=>[(10,.v (.int .i64 (j.1:Int))),(9,.v (.int .i64 ((aW vs).length:Int))),(8,.sl (aW vs)),(3,.own j.2 0 j.1 1),(1,.ptr p1 0)]) (λj=>[(j.2,.row 9 1 (((fo (decide (k=5)) ks (vs.map aO)).take j.1).map encS)),(p1,.box 26 (aD (.mk k n t ks vs)))]) (λj=>j.1<=vs.length) (λj=>vs.length-j.1) (0,p3) (Nat.zero_le _) ⟨rfl,rfl,rfl,rfl,rfl,trivial⟩ (.refl _)<|?_
 rintro⟨j,r⟩ hj
 dsimp only at hj⊢
 have hrl:(((fo (decide (k=5)) ks (vs.map aO)).take j).map encS).length=j:=by rw[List.length_map,List.length_take];omega
 by_cases hlt:j<vs.length
 ·have hgl:=fK vs j hlt
  have hat:=EW (decide (k=5)) ks (vs.map aO) j (by rw[List.length_map];exact hlt)
  have hsz:=J6 (fo (decide (k=5)) ks (vs.map aO)) j (by omega)
  rw[<-getD_lt (z:=⟨#[]⟩),hat] at hsz
  have hpj:(vs.map aO).getD j ⟨#[]⟩=aO vs[j]:=by rw[getD_lt (by rw[List.length_map];exact hlt),List.getElem_map]
  rw[hpj] at hat hsz
  by_cases hb:k=5/\j<ks.length
  ·have L6:=eD ks j hb.2
   have hkb:=O1 ks j hb.2
   rw[if_pos ⟨decide_eq_true hb.1,hb.2⟩,getD_lt hb.2] at hat hsz
   rw[aZ,aZ,aV] at hsz
   have hsn:=EZ _ j (by omega) _ hat
   focus
    refine Q.rg<|Q.bi U U U<|Q.nt<|S.sq<|S.cT U (decide_eq_true (by omega))<|UW.skip<|UQ.then<|S.sq<|UW.block<|Q.rg<|Q.mv U<|S.qu (Z.ia bM U U (by omega) (by assumption) (by exact Y _))<|?_
    refine S.qu (Z.Gm av U (Y _))<|S.dd<|D.al z26 U U U λp5=>Q.as U<|S.s<|D.uq 0 av U U U U (by exact aA _) (Y _) U U λ_=>?_
    refine Q.nt<|Q.rg<|S.qu (Z.dA 0 av U U (Y _))<|S.qu (Z.fe U U (λ_ hS=>ih _ (List.getElem_mem hlt) (hp.kid (List.getElem_mem hlt)) _ (hG.mono hS)))<|Q.as U<|Q.nt<|S.sq<|Q.rg<|Q.fa bP U<|Q.lc 2 eQ U U U<|Q.bi U U U<|Q.mv U<|?_
    refine S.tE 20 (λTB=>?_) (λTB=>?_)
    rotate_left
    omega
    refine Q.on (Z.mv U)<|Q.on (Z.fa dw U)<|Q.on (Z.di 2 dD U U U)<|Q.on (Z.fG aY U)<|Q.on (Z.bi U U U)<|Q.pk U U<|Q.nt<|S.cT U (decide_eq_true (by omega))<|S.rg<|Q.fa dw U<|Q.lc 2 dD U U U<|Q.mv U<|S.qu (Z.ia aY U U (by omega) (by assumption) (by rfl))<|?_
    refine S.qu (Z.fE ed U)<|S.qu (Z.call U U (λ_=>DC _ (by omega) _))<|S.qu (Z.cat (q:=aN 58) U U (by rw[aV];omega))<|?_
    refine Q.mv U<|S.qu (Z.cat U U (by rw[aZ,aV];omega))<|?_
    refine Q.as U<|Q.nt<|S.rg<|Q.mv U<|Q.mv U<|S.qu (Z.bl dV U U (bA U))<|S.dd<|D.ap 1 dV U U (by omega) U (.sl (j3 U)) (by first|omega|(simp;omega)) hsn λp39=>?_
    refine Q.as U<|US.nil<|UQ.aB<|UQ.then<|S.rg<|S.qu (Z.add (r:=((j+1:Nat):Int)) U U (IntWalk.i64_in _ (by omega)))<|Q.mv U<|US.nil<|?_
    refine S.back (j+1,p39) ⟨rfl,rfl,rfl,rfl,rfl,trivial⟩ (by repeat (first|exact List.Sublist.refl _|exact List.nil_sublist _|refine .cons_cons _ ?_|refine .cons _ ?_)) (by omega) (by omega)
  ·rw[if_neg (λh=>hb ⟨of_decide_eq_true h.1,h.2⟩)] at hat hsz
   have hsn:=EZ _ j (by omega) _ hat
   refine Q.rg<|Q.bi U U U<|Q.nt<|S.sq<|S.cT U (decide_eq_true (by omega))<|UW.skip<|UQ.then<|S.sq<|UW.block<|Q.rg<|Q.mv U<|S.qu (Z.ia bM U U (by omega) (by assumption) (by exact Y _))<|?_
   refine S.qu (Z.Gm av U (Y _))<|S.dd<|D.al z26 U U U λp5=>Q.as U<|S.s<|D.uq 0 av U U U U (by exact aA _) (Y _) U U λ_=>?_
   refine Q.nt<|Q.rg<|S.qu (Z.dA 0 av U U (Y _))<|S.qu (Z.fe U U (λ_ hS=>ih _ (List.getElem_mem hlt) (hp.kid (List.getElem_mem hlt)) _ (hG.mono hS)))<|Q.as U<|Q.nt<|S.sq<|Q.rg<|Q.fa bP U<|Q.lc 2 eQ U U U<|Q.bi U U U<|Q.mv U<|?_
   refine S.tE 20 (λTB=>?_) (λTB=>?_)
   refine Q.on (Z.mv U)<|Q.on (Z.fa dw U)<|Q.on (Z.di 2 dD U U U)<|Q.on (Z.fG aY U)<|Q.on (Z.bi U U U)<|Q.pk U U<|Q.nt<|S.cF U (decide_eq_false (by omega))<|UW.skip<|UQ.then<|S.rg<|Q.mv U<|Q.mv U<|S.qu (Z.bl dV U U (bA U))<|S.dd<|D.ap 1 dV U U (by omega) U (.sl (j3 U)) (by first|omega|(simp;omega)) hsn λp39=>?_
   refine Q.as U<|US.nil<|UQ.aB<|UQ.then<|S.rg<|S.qu (Z.add (r:=((j+1:Nat):Int)) U U (IntWalk.i64_in _ (by omega)))<|Q.mv U<|US.nil<|?_
   refine S.back (j+1,p39) ⟨rfl,rfl,rfl,rfl,rfl,trivial⟩ (by repeat (first|exact List.Sublist.refl _|exact List.nil_sublist _|refine .cons_cons _ ?_|refine .cons _ ?_)) (by omega) (by omega)
   refine Q.of<|Q.of<|Q.of<|Q.of<|Q.of<|Q.pk U U<|Q.nt<|S.cF U U<|UW.skip<|UQ.then<|S.rg<|Q.mv U<|Q.mv U<|S.qu (Z.bl dV U U (bA U))<|S.dd<|D.ap 1 dV U U (by omega) U (.sl (j3 U)) (by first|omega|(simp;omega)) hsn λp39=>?_
   refine Q.as U<|US.nil<|UQ.aB<|UQ.then<|S.rg<|S.qu (Z.add (r:=((j+1:Nat):Int)) U U (IntWalk.i64_in _ (by omega)))<|Q.mv U<|US.nil<|?_
   refine S.back (j+1,p39) ⟨rfl,rfl,rfl,rfl,rfl,trivial⟩ (by repeat (first|exact List.Sublist.refl _|exact List.nil_sublist _|refine .cons_cons _ ?_|refine .cons _ ?_)) (by omega) (by omega)
 ·have hjl:j=vs.length:=by omega
  have hall:(fo (decide (k=5)) ks (vs.map aO)).take j=fo (decide (k=5)) ks (vs.map aO):=List.take_of_length_le (by omega)
  rw[hall]
  rw[hall] at hrl
  have hjs:=tC (fo (decide (k=5)) ks (vs.map aO))
  by_cases hk5:k=5
  ·rw[decide_eq_true hk5] at hjs hPl hsum hrl⊢
   refine Q.rg<|Q.bi U U U<|Q.nt<|S.sq<|S.cF U (decide_eq_false (by omega))<|UW.exit<|UQ.pass<|UQ.pass<|UQ.here<|UQ.then<|S.sq<|Q.rg<|Q.fa bP U<|Q.lc 1 eQ U U U<|Q.nt<|UW.block<|Q.rg<|Q.bi U U U<|Q.as U<|Q.nt<|S.cF U (iy (by omega))<|Q.rg<|Q.bi U U U<|Q.as U<|Q.nt<|S.cF U (iy (by omega))<|Q.rg<|Q.bi U U U<|Q.as U<|Q.nt<|S.cF U (iy (by omega))<|Q.rg<|Q.bi U U U<|Q.as U<|Q.nt<|S.cF U (iy (by omega))<|Q.rg<|Q.bi U U U<|Q.as U<|Q.nt<|S.cT U (kQ (by omega))<|Q.rg<|Q.mv U<|S.qu (Z.nK U U (λhd=>EY (aN 123) (aN 125) (by decide) (by decide) _ (by omega) (by omega) r j (by omega) _ (hd.at_ (k:=0) U)))<|Q.as U<|Q.nt<|UW.ret<|UQ.aH<|UQ.ax<|S.bK (λ_=>ak U U)<|?_
   focus ((congr 2;rw[fP];unfold Gb;(repeat' split)<;>first|rfl|omega);done)
  ·rw[decide_eq_false hk5] at hjs hPl hsum hrl⊢
   refine Q.rg<|Q.bi U U U<|Q.nt<|S.sq<|S.cF U (decide_eq_false (by omega))<|UW.exit<|UQ.pass<|UQ.pass<|UQ.here<|UQ.then<|S.sq<|Q.rg<|Q.fa bP U<|Q.lc 1 eQ U U U<|Q.nt<|UW.block<|Q.rg<|Q.bi U U U<|Q.as U<|Q.nt<|?_
   refine S.cE U (λhc43=>?_) (λhc43=>?_)
   refine Q.rg<|Q.as U<|Q.nt<|UW.ret<|UQ.aH<|UQ.ax<|S.bK (λ_=>ak U U)<|?_
   focus ((congr 2;rw[fP];unfold Gb;(repeat' split)<;>first|rfl|omega);done)
   refine Q.rg<|Q.bi U U U<|Q.as U<|Q.nt<|?_
   refine S.cE U (λab2=>?_) (λab2=>?_)
   refine Q.rg<|Q.fa iA U<|Q.lc 1 qF U U U<|Q.bi U U U<|S.qu (Z.call U U (λ_=>BZ _ _))<|Q.as U<|Q.nt<|UW.ret<|UQ.aH<|UQ.ax<|S.bK (λ_=>ak U U)<|?_
   focus ((congr 2;rw[fP];unfold Gb;(repeat' split)<;>first|rfl|omega);done)
   refine Q.rg<|Q.bi U U U<|Q.as U<|Q.nt<|?_
   refine S.cE U (λaaG=>?_) (λaaG=>?_)
   refine Q.rg<|Q.fa iA U<|Q.lc 1 qF U U U<|S.qu (Z.fe U U (λ_ hS=>DD n hn.1 hn.2 _ (hG.mono hS)))<|Q.as U<|Q.nt<|UW.ret<|UQ.aH<|UQ.ax<|S.bK (λ_=>ak U U)<|?_
   focus ((congr 2;rw[fP];unfold Gb;(repeat' split)<;>first|rfl|omega);done)
   refine Q.rg<|Q.bi U U U<|Q.as U<|Q.nt<|?_
   refine S.cE U (λOP=>?_) (λOP=>?_)
   refine Q.rg<|Q.fa jZ U<|Q.lc 1 ed U U U<|S.qu (Z.call U U (λ_=>DC _ (by omega) _))<|Q.as U<|Q.nt<|UW.ret<|UQ.aH<|UQ.ax<|S.bK (λ_=>ak U U)<|?_
   focus ((congr 2;rw[fP];unfold Gb;(repeat' split)<;>first|rfl|omega);done)
   refine Q.rg<|Q.bi U U U<|Q.as U<|Q.nt<|S.cF U (iy (by omega))<|UW.skip<|UQ.aB<|UQ.then<|Q.rg<|Q.mv U<|S.qu (Z.nK U U (λhd=>EY (aN 91) (aN 93) (by decide) (by decide) _ (by omega) (by omega) r j (by omega) _ (hd.at_ (k:=0) U)))<|Q.as U<|Q.nt<|UW.ret<|S.bK (λ_=>ak U U)<|?_
   focus ((congr 2;rw[fP];unfold Gb;(repeat' split)<;>first|rfl|omega);done)
theorem Yx{k n:Int}{t:ByteArray}{ks:List ByteArray}{vs:List V}(h1:k=1)(h2:n=1):aO (.mk k n t ks vs)=⟨#[116,114,117,101]⟩:=by
 subst h1 h2
 rw[fP]
 show DF true=_
 kernel_rfl
theorem UA{k n:Int}{t:ByteArray}{ks:List ByteArray}{vs:List V}(h1:k=1)(h2:¬n=1):aO (.mk k n t ks vs)=⟨#[102,97,108,115,101]⟩:=by
 subst h1
 rw[fP]
 show DF (n==1)=_
 rw[show(n==1)=false from by simpa using h2]
 kernel_rfl
theorem zI(a:ByteArray):gu [] comma++a=a:=yw (by rw[vo];rfl)
theorem GX(P:List ByteArray)(j:Nat)(h:j<P.length)(x:ByteArray)(hx:P.getD j ⟨#[]⟩=x)(h0:0<j):(gu (P.take j) comma++comma)++x=gu (P.take (j+1)) comma:=by
 rw[Be P j h,hx,GU,if_neg (λh1=>by have:=congrArg List.length h1;rw[List.length_take,List.length_nil] at this;omega)]
theorem E5(P:List ByteArray)(h:0<P.length)(x:ByteArray)(hx:P.getD 0 ⟨#[]⟩=x):x=gu (P.take (0+1)) comma:=by
 rw[Be P 0 h,hx,List.take_zero,GU,if_pos U]
theorem vw(x:V)(hf:Fits x):∀(hp:Pr x) (H:Hp),au Tryz.prog 37 [.agg (aD x)] H (bz H (.v (.string (aO x)))):=by
 induction hf with
 |mk k n t ks vs hl1 hl2 hkid ih=>
 intro hp H
 obtain⟨hn,ht,hwk,hsum⟩:=Mj hp
 have hsum:=hsum (decide (k=5))
 have hvl:=aP vs
 have hkl:(ks.map encS).length=ks.length:=List.length_map ..
 have hPl:(fo (decide (k=5)) ks (vs.map aO)).length=vs.length:=by rw[wz,List.length_map]
 refine aF (n:=71) (H0:=H) (I:=[]) Tryz.func37 (by kernel_rfl) U (by rw[Tryz.ntmps37];rfl) .nil<|?_
 refine Q.rg<|S.dd<|D.box U U U λp1=>Q.as U<|Q.nt<|S.sq<|Q.rg<|Q.fa bP U<|Q.lc 0 eQ U U U<|Q.nt<|UW.block<|Q.rg<|Q.bi U U U<|Q.as U<|Q.nt<|?_
 refine S.cE U (λTH=>?_) (λTH=>?_)
 refine Q.rg<|Q.as U<|Q.nt<|UW.ret<|UQ.aH<|UQ.ax<|S.bK (λ_=>ak U U)<|?_
 focus ((congr 2;rw[fP];unfold Gb;(repeat' split)<;>first|rfl|omega);done)
 refine Q.rg<|Q.bi U U U<|Q.as U<|Q.nt<|?_
 refine S.cE U (λhc9=>?_) (λhc9=>?_)
 refine S.sq<|Q.rg<|Q.fa iA U<|Q.lc 0 qF U U U<|Q.bi U U U<|Q.nt<|?_
 refine S.cE U (λaav=>?_) (λaav=>?_)
 refine Q.rg<|Q.as U<|Q.nt<|UW.ret<|UQ.ax<|UQ.aH<|UQ.ax<|S.bK (λ_=>ak U U)<|?_
 focus (rw[Yx (by assumption) (by assumption)];done)
 refine UW.skip<|UQ.then<|Q.rg<|Q.as U<|Q.nt<|UW.ret<|UQ.aH<|UQ.ax<|S.bK (λ_=>ak U U)<|?_
 focus (rw[UA (by assumption) (by assumption)];done)
 refine Q.rg<|Q.bi U U U<|Q.as U<|Q.nt<|?_
 refine S.cE U (λTE=>?_) (λTE=>?_)
 refine Q.rg<|Q.fa iA U<|Q.lc 0 qF U U U<|S.qu (Z.call U U (λ_=>Mi _ n U hn.1 hn.2 _))<|Q.as U<|Q.nt<|UW.ret<|UQ.aH<|UQ.ax<|S.bK (λ_=>ak U U)<|?_
 focus ((congr 2;rw[fP];unfold Gb;(repeat' split)<;>first|rfl|omega);done)
 refine Q.rg<|Q.bi U U U<|Q.as U<|Q.nt<|?_
 refine S.cE U (λhc19=>?_) (λhc19=>?_)
 refine Q.rg<|Q.fa jZ U<|Q.lc 0 ed U U U<|S.qu (Z.call U U (λ_=>uV _ (by omega) _))<|Q.as U<|Q.nt<|UW.ret<|UQ.aH<|UQ.ax<|S.bK (λ_=>ak U U)<|?_
 focus ((congr 2;rw[fP];unfold Gb;(repeat' split)<;>first|rfl|omega);done)
 refine UW.skip<|UQ.aB<|UQ.then<|Q.rg<|Q.as U<|Q.nt<|S.sq<|Q.rg<|Q.as U<|Q.nt<|UW.block<|S.loop (λj:Nat=>[(4,.v (.int .i64 (j:Int))),(3,.v (.string (gu ((fo (decide (k=5)) ks (vs.map aO)).take j) comma))),(1,.ptr p1 0)]) (λj=>[(p1,.box 26 (aD (.mk k n t ks vs)))]) (λj=>j<=vs.length) (λj=>vs.length-j) 0 (Nat.zero_le _) ⟨rfl,rfl,rfl,trivial⟩ (.refl _)<|?_
 rintro j hj
 have hjs:=tC ((fo (decide (k=5)) ks (vs.map aO)).take j)
 have hjt:=GV (fo (decide (k=5)) ks (vs.map aO)) j
 by_cases hlt:j<vs.length
 ·have hgl:=fK vs j hlt
  have hat:=EW (decide (k=5)) ks (vs.map aO) j (by rw[List.length_map];exact hlt)
  have hsz:=J6 (fo (decide (k=5)) ks (vs.map aO)) j (by omega)
  rw[<-getD_lt (z:=⟨#[]⟩),hat] at hsz
  have hpj:(vs.map aO).getD j ⟨#[]⟩=aO vs[j]:=by rw[getD_lt (by rw[List.length_map];exact hlt),List.getElem_map]
  rw[hpj] at hat hsz
  by_cases hb:k=5/\j<ks.length
  ·have L6:=eD ks j hb.2
   have hkb:=O1 ks j hb.2
   rw[if_pos ⟨decide_eq_true hb.1,hb.2⟩,getD_lt hb.2] at hat hsz
   rw[aZ,aZ,aV] at hsz
   by_cases h0:0<j
   ·have hst:(((gu ((fo (decide (k=5)) ks (vs.map aO)).take j) comma++comma)++jM ks[j])++aN 58)++aO vs[j]=gu ((fo (decide (k=5)) ks (vs.map aO)).take (j+1)) comma:=by
     rw[<-GX _ j (by omega) _ hat h0];simp only[ByteArray.append_assoc]
    focus
     refine S.sq<|Q.rg<|Q.mv U<|Q.fa bO U<|Q.lc 0 dF U U U<|S.qu (Z.fG bM U)<|Q.bi U U U<|Q.nt<|S.cT U (decide_eq_true (by omega))<|UW.skip<|UQ.then<|S.sq<|UW.block<|S.sq<|Q.rg<|Q.mv U<|Q.bi U U U<|Q.nt<|S.cT U (decide_eq_true (by omega))<|S.rg<|Q.mv U<|S.qu (Z.cat (q:=comma) U U (by show _+1<=_;omega))<|?_
     refine Q.as U<|Q.nt<|S.sq<|Q.rg<|Q.fa bP U<|Q.lc 0 eQ U U U<|Q.bi U U U<|Q.mv U<|?_
     refine S.tE 38 (λhc38=>?_) (λhc38=>?_)
     rotate_left
     omega
     refine Q.on (Z.mv U)<|Q.on (Z.fa dw U)<|Q.on (Z.di 0 dD U U U)<|Q.on (Z.fG aY U)<|Q.on (Z.bi U U U)<|Q.pk U U<|Q.nt<|S.cT U (decide_eq_true (by omega))<|S.rg<|Q.mv U<|Q.fa dw U<|Q.lc 0 dD U U U<|Q.mv U<|S.qu (Z.ia aY U U (by omega) (by assumption) (by rfl))<|?_
     refine S.qu (Z.fE ed U)<|S.qu (Z.call U U (λ_=>uV _ (by omega) _))<|S.qu (Z.cat U U (by rw[aZ];show _+1+_<=_;omega))<|?_
     refine S.qu (Z.cat (q:=aN 58) U U (by rw[aZ,aZ,aV];show _+1+_+1<=_;omega))<|?_
     refine Q.as U<|Q.nt<|S.rg<|Q.mv U<|Q.fa bO U<|Q.lc 0 dF U U U<|Q.mv U<|S.qu (Z.ia bM U U (by omega) (by assumption) (by exact Y _))<|?_
     refine S.qu (Z.Gm av U (Y _))<|S.qu (Z.call U U (λ_=>ih _ (List.getElem_mem hlt) (hp.kid (List.getElem_mem hlt)) _))<|S.qu (Z.eq (u':=.v (.string (gu ((fo (decide (k=5)) ks (vs.map aO)).take (j+1)) comma))) (Z.cat U U (by rw[aZ,aZ,aZ,aV];show _+1+_+1+_<=_;omega)) (by rw[hst]))<|?_
     refine Q.as U<|US.nil<|UQ.aB<|UQ.then<|S.rg<|Q.mv U<|S.qu (Z.add (r:=((j+1:Nat):Int)) U U (IntWalk.i64_in _ (by omega)))<|Q.as U<|US.nil<|?_
     refine S.back _ ⟨rfl,rfl,rfl,trivial⟩ (.refl _) (by omega) (by omega)
   ·have hj0:j=0:=by omega
    subst hj0
    have hst:((gu [] comma++jM ks[0])++aN 58)++aO vs[0]=gu ((fo (decide (k=5)) ks (vs.map aO)).take (0+1)) comma:=by
     rw[<-E5 _ (by omega) _ hat,zI]
    focus
     refine S.sq<|Q.rg<|Q.mv U<|Q.fa bO U<|Q.lc 0 dF U U U<|S.qu (Z.fG bM U)<|Q.bi U U U<|Q.nt<|S.cT U (decide_eq_true (by omega))<|UW.skip<|UQ.then<|S.sq<|UW.block<|S.sq<|Q.rg<|Q.mv U<|Q.bi U U U<|Q.nt<|S.cF U (decide_eq_false (by omega))<|UW.skip<|UQ.then<|S.sq<|Q.rg<|Q.fa bP U<|Q.lc 0 eQ U U U<|Q.bi U U U<|Q.mv U<|?_
     refine S.tE 38 (λhc38=>?_) (λhc38=>?_)
     rotate_left
     omega
     refine Q.on (Z.mv U)<|Q.on (Z.fa dw U)<|Q.on (Z.di 0 dD U U U)<|Q.on (Z.fG aY U)<|Q.on (Z.bi U U U)<|Q.pk U U<|Q.nt<|S.cT U (decide_eq_true (by omega))<|S.rg<|Q.mv U<|Q.fa dw U<|Q.lc 0 dD U U U<|Q.mv U<|S.qu (Z.ia aY U U (by omega) (by assumption) (by rfl))<|?_
     refine S.qu (Z.fE ed U)<|S.qu (Z.call U U (λ_=>uV _ (by omega) _))<|S.qu (Z.cat (p:=gu [] comma) U U (by rw[show(gu [] comma).size=0 from rfl];omega))<|?_
     refine S.qu (Z.cat (q:=aN 58) U U (by rw[zI,aV];omega))<|?_
     refine Q.as U<|Q.nt<|S.rg<|Q.mv U<|Q.fa bO U<|Q.lc 0 dF U U U<|Q.mv U<|S.qu (Z.ia bM U U (by omega) (by assumption) (by exact Y _))<|?_
     refine S.qu (Z.Gm av U (Y _))<|S.qu (Z.call U U (λ_=>ih _ (List.getElem_mem hlt) (hp.kid (List.getElem_mem hlt)) _))<|S.qu (Z.eq (u':=.v (.string (gu ((fo (decide (k=5)) ks (vs.map aO)).take (0+1)) comma))) (Z.cat U U (by rw[zI,aZ,aV];omega)) (by rw[hst]))<|?_
     refine Q.as U<|US.nil<|UQ.aB<|UQ.then<|S.rg<|Q.mv U<|S.qu (Z.add (r:=((0+1:Nat):Int)) U U (IntWalk.i64_in _ (by omega)))<|Q.as U<|US.nil<|?_
     refine S.back _ ⟨rfl,rfl,rfl,trivial⟩ (.refl _) (by omega) (by omega)
  ·rw[if_neg (λh=>hb ⟨of_decide_eq_true h.1,h.2⟩)] at hat hsz
   by_cases h0:0<j
   ·have hst:=GX _ j (by omega) _ hat h0
    refine S.sq<|Q.rg<|Q.mv U<|Q.fa bO U<|Q.lc 0 dF U U U<|S.qu (Z.fG bM U)<|Q.bi U U U<|Q.nt<|S.cT U (decide_eq_true (by omega))<|UW.skip<|UQ.then<|S.sq<|UW.block<|S.sq<|Q.rg<|Q.mv U<|Q.bi U U U<|Q.nt<|S.cT U (decide_eq_true (by omega))<|S.rg<|Q.mv U<|S.qu (Z.cat (q:=comma) U U (by show _+1<=_;omega))<|?_
    refine Q.as U<|Q.nt<|S.sq<|Q.rg<|Q.fa bP U<|Q.lc 0 eQ U U U<|Q.bi U U U<|Q.mv U<|?_
    refine S.tE 38 (λhc38=>?_) (λhc38=>?_)
    refine Q.on (Z.mv U)<|Q.on (Z.fa dw U)<|Q.on (Z.di 0 dD U U U)<|Q.on (Z.fG aY U)<|Q.on (Z.bi U U U)<|Q.pk U U<|Q.nt<|S.cF U (decide_eq_false (by omega))<|UW.skip<|UQ.then<|S.rg<|Q.mv U<|Q.fa bO U<|Q.lc 0 dF U U U<|Q.mv U<|S.qu (Z.ia bM U U (by omega) (by assumption) (by exact Y _))<|?_
    refine S.qu (Z.Gm av U (Y _))<|S.qu (Z.call U U (λ_=>ih _ (List.getElem_mem hlt) (hp.kid (List.getElem_mem hlt)) _))<|S.qu (Z.eq (u':=.v (.string (gu ((fo (decide (k=5)) ks (vs.map aO)).take (j+1)) comma))) (Z.cat U U (by rw[aZ];show _+1+_<=_;omega)) (by rw[hst]))<|?_
    refine Q.as U<|US.nil<|UQ.aB<|UQ.then<|S.rg<|Q.mv U<|S.qu (Z.add (r:=((j+1:Nat):Int)) U U (IntWalk.i64_in _ (by omega)))<|Q.as U<|US.nil<|?_
    refine S.back _ ⟨rfl,rfl,rfl,trivial⟩ (.refl _) (by omega) (by omega)
    refine Q.of<|Q.of<|Q.of<|Q.of<|Q.of<|Q.pk U U<|Q.nt<|S.cF U U<|UW.skip<|UQ.then<|S.rg<|Q.mv U<|Q.fa bO U<|Q.lc 0 dF U U U<|Q.mv U<|S.qu (Z.ia bM U U (by omega) (by assumption) (by exact Y _))<|?_
    refine S.qu (Z.Gm av U (Y _))<|S.qu (Z.call U U (λ_=>ih _ (List.getElem_mem hlt) (hp.kid (List.getElem_mem hlt)) _))<|S.qu (Z.eq (u':=.v (.string (gu ((fo (decide (k=5)) ks (vs.map aO)).take (j+1)) comma))) (Z.cat U U (by rw[aZ];show _+1+_<=_;omega)) (by rw[hst]))<|?_
    refine Q.as U<|US.nil<|UQ.aB<|UQ.then<|S.rg<|Q.mv U<|S.qu (Z.add (r:=((j+1:Nat):Int)) U U (IntWalk.i64_in _ (by omega)))<|Q.as U<|US.nil<|?_
    refine S.back _ ⟨rfl,rfl,rfl,trivial⟩ (.refl _) (by omega) (by omega)
   ·have hj0:j=0:=by omega
    subst hj0
    have hst:=E5 _ (by omega) _ hat
    refine S.sq<|Q.rg<|Q.mv U<|Q.fa bO U<|Q.lc 0 dF U U U<|S.qu (Z.fG bM U)<|Q.bi U U U<|Q.nt<|S.cT U (decide_eq_true (by omega))<|UW.skip<|UQ.then<|S.sq<|UW.block<|S.sq<|Q.rg<|Q.mv U<|Q.bi U U U<|Q.nt<|S.cF U (decide_eq_false (by omega))<|UW.skip<|UQ.then<|S.sq<|Q.rg<|Q.fa bP U<|Q.lc 0 eQ U U U<|Q.bi U U U<|Q.mv U<|?_
    refine S.tE 38 (λhc38=>?_) (λhc38=>?_)
    refine Q.on (Z.mv U)<|Q.on (Z.fa dw U)<|Q.on (Z.di 0 dD U U U)<|Q.on (Z.fG aY U)<|Q.on (Z.bi U U U)<|Q.pk U U<|Q.nt<|S.cF U (decide_eq_false (by omega))<|UW.skip<|UQ.then<|S.rg<|Q.mv U<|Q.fa bO U<|Q.lc 0 dF U U U<|Q.mv U<|S.qu (Z.ia bM U U (by omega) (by assumption) (by exact Y _))<|?_
    refine S.qu (Z.Gm av U (Y _))<|S.qu (Z.call U U (λ_=>ih _ (List.getElem_mem hlt) (hp.kid (List.getElem_mem hlt)) _))<|S.qu (Z.eq (u':=.v (.string (gu ((fo (decide (k=5)) ks (vs.map aO)).take (0+1)) comma))) (Z.cat (p:=gu [] comma) U U (by rw[show(gu [] comma).size=0 from rfl];omega)) (by rw[zI,<-hst]))<|?_
    refine Q.as U<|US.nil<|UQ.aB<|UQ.then<|S.rg<|Q.mv U<|S.qu (Z.add (r:=((0+1:Nat):Int)) U U (IntWalk.i64_in _ (by omega)))<|Q.as U<|US.nil<|?_
    refine S.back _ ⟨rfl,rfl,rfl,trivial⟩ (.refl _) (by omega) (by omega)
    refine Q.of<|Q.of<|Q.of<|Q.of<|Q.of<|Q.pk U U<|Q.nt<|S.cF U U<|UW.skip<|UQ.then<|S.rg<|Q.mv U<|Q.fa bO U<|Q.lc 0 dF U U U<|Q.mv U<|S.qu (Z.ia bM U U (by omega) (by assumption) (by exact Y _))<|?_
    refine S.qu (Z.Gm av U (Y _))<|S.qu (Z.call U U (λ_=>ih _ (List.getElem_mem hlt) (hp.kid (List.getElem_mem hlt)) _))<|S.qu (Z.eq (u':=.v (.string (gu ((fo (decide (k=5)) ks (vs.map aO)).take (0+1)) comma))) (Z.cat (p:=gu [] comma) U U (by rw[show(gu [] comma).size=0 from rfl];omega)) (by rw[zI,<-hst]))<|?_
    refine Q.as U<|US.nil<|UQ.aB<|UQ.then<|S.rg<|Q.mv U<|S.qu (Z.add (r:=((0+1:Nat):Int)) U U (IntWalk.i64_in _ (by omega)))<|Q.as U<|US.nil<|?_
    refine S.back _ ⟨rfl,rfl,rfl,trivial⟩ (.refl _) (by omega) (by omega)
 ·have hjl:j=vs.length:=by omega
  have hall:(fo (decide (k=5)) ks (vs.map aO)).take j=fo (decide (k=5)) ks (vs.map aO):=List.take_of_length_le (by omega)
  rw[hall] at hjs hjt⊢
  by_cases hk5:k=5
  ·rw[decide_eq_true hk5] at hjs hPl hsum⊢
   refine S.sq<|Q.rg<|Q.mv U<|Q.fa bO U<|Q.lc 0 dF U U U<|S.qu (Z.fG bM U)<|Q.bi U U U<|Q.nt<|S.cF U (decide_eq_false (by omega))<|UW.exit<|UQ.pass<|UQ.pass<|UQ.here<|UQ.then<|S.sq<|Q.rg<|Q.fa bP U<|Q.lc 0 eQ U U U<|Q.bi U U U<|Q.nt<|S.cT U (kQ (by omega))<|Q.rg<|Q.mv U<|S.qu (Z.cat (p:=aN 123) U U (by rw[aV];omega))<|?_
   refine S.qu (Z.cat (q:=aN 125) U U (by rw[aZ,aV,aV];omega))<|?_
   refine Q.as U<|Q.nt<|UW.ret<|UQ.ax<|S.bK (λ_=>ak U U)<|?_
   focus ((congr 2;rw[fP];unfold Gb;(repeat' split)<;>first|rfl|omega);done)
  ·rw[decide_eq_false hk5] at hjs hPl hsum⊢
   refine S.sq<|Q.rg<|Q.mv U<|Q.fa bO U<|Q.lc 0 dF U U U<|S.qu (Z.fG bM U)<|Q.bi U U U<|Q.nt<|S.cF U (decide_eq_false (by omega))<|UW.exit<|UQ.pass<|UQ.pass<|UQ.here<|UQ.then<|S.sq<|Q.rg<|Q.fa bP U<|Q.lc 0 eQ U U U<|Q.bi U U U<|Q.nt<|S.cF U (iy (by omega))<|UW.skip<|UQ.then<|Q.rg<|Q.mv U<|S.qu (Z.cat (p:=aN 91) U U (by rw[aV];omega))<|?_
   refine S.qu (Z.cat (q:=aN 93) U U (by rw[aZ,aV,aV];omega))<|?_
   refine Q.as U<|Q.nt<|UW.ret<|S.bK (λ_=>ak U U)<|?_
   focus ((congr 2;rw[fP];unfold Gb;(repeat' split)<;>first|rfl|omega);done)
end Go.Proofs.YtonpfomjoiaacaaGreatDoor
end
