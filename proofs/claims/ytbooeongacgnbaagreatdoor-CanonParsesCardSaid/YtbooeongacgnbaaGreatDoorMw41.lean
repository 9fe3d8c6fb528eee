/- A part of the proof. -/
import Derived.Test.YtbooeongacgnbaaGreatDoorMw40
import Derived.Test.YtbooeongacgnbaaGreatDoorMw33
import Derived.Test.YtbooeongacgnbaaGreatDoorMw30
import Derived.Test.YtbooeongacgnbaaGreatDoorMw19
import Derived.Test.YtbooeongacgnbaaGreatDoorMw16
import Derived.Test.YtbooeongacgnbaaGreatDoorMw39
set_option maxRecDepth 100000
set_option maxHeartbeats 4000000
set_option linter.unusedSectionVars false
set_option linter.unusedVariables false
set_option linter.unusedSimpArgs false
section
namespace Go.Proofs.YtbooeongacgnbaaGreatDoor
open Go Go.gW Go.RowKit
theorem SE{s:ByteArray}{p q:Nat}{v:V}(hp:p<=s.size)(h:ko s p=.ok q v):∃n:Int,v=qO n/\ -9007199254740991<=n/\n<=9007199254740991:=by
 unfold ko at h
 have ha:∃a,(if bT s p 45=true then p+1 else p)=a/\a<=s.size:=⟨_,rfl,by
  split
  ·rename_i h1;have:=bP h1;omega
  ·exact hp⟩
 obtain⟨a,e,h2⟩:=ha
 rw[e] at h
 have h3:=(sO s a (aT s a) (Nat.le_refl _) h2).2.2
 unfold rG at h
 split at h
 ·cases h
 ·split at h
  ·cases h
  ·split at h
   ·cases h
   ·cases h
    refine⟨_,rfl,?_,?_⟩
    ·split<;>omega
    ·split<;>omega
theorem PH{s:ByteArray}{p q:Nat}{v:V}(h:eG s p=.ok q v):v=zeroV\/v=.mk 1 1 ⟨#[]⟩ [] []\/v=.mk 1 0 ⟨#[]⟩ [] []:=by
 unfold eG at h
 split at h
 ·cases h;exact .inl U
 ·split at h
  ·cases h;exact .inr (.inl U)
  ·split at h
   ·cases h;exact .inr (.inr U)
   ·cases h
theorem LH{u:ByteArray}{t:ByteArray}{n:Nat}(h:gV u=some (t,n)):t.size+4<=4*n:=by
 unfold gV at h
 split at h
 ·cases h
 ·have:=sS u _ _ h
  have e:(⟨#[]⟩:ByteArray).size=0:=rfl
  omega
theorem Wv(v u:V):qz (JJ v u)=qz v+qz u+1:=by
 obtain⟨k,n,t,ks,vs⟩:=v
 show qz (.mk k n t ks (vs++[u]))=_
 rw[kL,kL,pq]
 have:fD [u]=qz u+1+0:=rfl
 omega
theorem num_add{v u:V}(h:iZ v)(hu:iZ u):iZ (JJ v u):=by
 obtain⟨k,n,t,ks,vs⟩:=v
 refine lL h.n0 λx hx=>?_
 rcases List.mem_append.1 hx with hx|hx
 ·exact h.kid hx
 ·rw[List.mem_singleton.1 hx];exact hu
theorem qF(k n:Int)(t:ByteArray):qz (.mk k n t [] [])=30+6*t.size:=by rw[kL];rfl
theorem PI(s:ByteArray):∀f,(∀p d q v,p<=s.size->fQ s f p d=.ok q v->iZ v/\qz v+40*p<=40*q)/\(∀p d ob q v,p<s.size->gJ s f p d ob=.ok q v->iZ v/\qz v+40*p<=40*q)/\
 (∀p d ob w q v,p<=s.size->iZ w->dP s f p d ob w=.ok q v->iZ v/\qz v+40*p<=qz w+40*q)/\(∀p d w q v,p<=s.size->iZ w->gM s f p d w=.ok q v->iZ v/\qz v+40*p<=qz w+40*q)
 |0=>⟨(λp d q v _ h=>by rw[fQ] at h;cases h),(λp d ob q v _ h=>by rw[gJ] at h;cases h),(λp d ob w q v _ _ h=>by rw[dP] at h;cases h),(λp d w q v _ _ h=>by rw[gM] at h;cases h)⟩
 |f+1=>by
  obtain⟨iv,im,il,ip⟩:=PI s f
  obtain⟨ov,om,ol,op⟩:=kM s f
  have hnew:∀ob,iZ (qP ob)/\qz (qP ob)=30:=λob=>⟨lL (by decide) (λx hx=>by cases hx),by unfold qP;rw[qF];rfl⟩
  refine⟨λp d q v hp h=>?_,λp d ob q v hp h=>?_,λp d ob w q v hp hw h=>?_,λp d w q v hp hw h=>?_⟩
  ·rw[fQ] at h
   split at h
   ·rename_i hb
    have hlt:p<s.size:=hb.elim bP bP
    split at h
    ·cases h
    ·exact im _ _ _ _ _ hlt h
   ·split at h
    ·split at h
     ·cases h
     ·rename_i t n hu
      have h1:=LH hu
      have h2:=fV hu
      cases h
      refine⟨lL (by decide) (λx hx=>by cases hx),?_⟩
      unfold BP
      rw[qF];omega
    ·split at h
     ·have h1:=Lg hp h
      obtain⟨n,rfl,h2,h3⟩:=SE hp h
      refine⟨lL (by omega) (λx hx=>by cases hx),?_⟩
      unfold qO
      rw[qF]
      have:(⟨#[]⟩:ByteArray).size=0:=rfl
      omega
     ·have h1:=Hg h
      have e0:(⟨#[]⟩:ByteArray).size=0:=rfl
      rcases PH h with rfl|rfl|rfl
      ·refine⟨lL (by decide) (λx hx=>by cases hx),?_⟩
       unfold zeroV
       rw[qF];omega
      ·refine⟨lL (by decide) (λx hx=>by cases hx),?_⟩
       rw[qF];omega
      ·refine⟨lL (by decide) (λx hx=>by cases hx),?_⟩
       rw[qF];omega
  ·rw[gJ] at h
   have h1:=bu s (p+1)
   have h2:=aX s (p+1) (by omega)
   obtain⟨n1,n2⟩:=hnew ob
   split at h
   ·cases h;exact⟨n1,by omega⟩
   ·have:=il _ _ _ _ _ _ h2 n1 h
    exact⟨this.1,by omega⟩
  ·rw[dP] at h
   split at h
   ·cases h
   ·rename_i q1 v1 he
    have hq:p<q1/\q1<=s.size/\iZ v1/\qz v1+40*p<=qz w+40*q1+1:=by
     split at he
     ·have h1:=op _ _ _ _ _ hp he
      have h2:=ip _ _ _ _ _ hp hw he
      exact⟨h1.1,h1.2,h2.1,by omega⟩
     ·split at he
      ·cases he
      ·rename_i hv
       cases he
       have h1:=ov _ _ _ _ hp hv
       have h2:=iv _ _ _ _ hp hv
       refine⟨h1.1,h1.2,num_add hw h2.1,?_⟩
       rw[Wv];omega
    obtain⟨h3,h4,h5,h6⟩:=hq
    have h1:=bu s q1
    have h2:=aX s q1 h4
    split at h
    ·cases h;exact⟨h5,by omega⟩
    ·split at h
     ·rename_i hb
      have:=bP hb
      have h7:=bu s (aC s q1+1)
      have h8:=aX s (aC s q1+1) (by omega)
      have:=il _ _ _ _ _ _ h8 h5 h
      exact⟨this.1,by omega⟩
     ·cases h
  ·rw[gM] at h
   split at h
   ·cases h
   ·rename_i key n hu
    have hn:=fV hu
    rw[ext_size] at hn
    have hw1:=LH hu
    split at h
    ·cases h
    ·split at h
     ·rename_i hb
      have:=bP hb
      split at h
      ·cases h
      ·rename_i u hv
       have h3:=bu s (p+n)
       have h4:=bu s (aC s (p+n)+1)
       have h5:=aX s (aC s (p+n)+1) (by omega)
       have h6:=iv _ _ _ _ h5 hv
       cases h
       refine⟨Iy hw h6.1 key,?_⟩
       have:=LD w key u
       omega
     ·cases h
theorem xA(s:ByteArray):Pr (eT s).1:=by
 have hz:Pr zeroV:=⟨.mk _ _ _ _ _ (Nat.zero_le _) (Nat.zero_le _) (λx h=>by cases h),lL (by decide) (λx hx=>by cases hx),by unfold zeroV;rw[qF];decide⟩
 unfold eT
 split
 ·exact hz
 ·split
  ·exact hz
  ·split
   ·exact hz
   ·rename_i p v h
    split
    ·exact hz
    ·have hc:=aX s 0 (Nat.zero_le _)
     have h1:=(PI s _).1 _ _ _ _ hc h
     have h2:=((kM s _).1 _ _ _ _ hc h).2
     exact⟨(xw s (by omega) _).1 _ _ _ _ hc h,h1.1,by show qz v<=_;omega⟩
theorem IA:∀(m:Nat) (n:Int) (hm:n.natAbs=m) (h0: -9223372036854775808<=n) (h1:n<=9223372036854775807) (H:Hp),F Tryz.prog 33 [.v (.int .i64 n)] H (bn H (.v (.string (kI n)))):=by
 intro m
 induction m using Nat.strongRecOn with
 |_ m ih=>
 intro n hm h0 h1 H
 have hds:=CE (n.tdiv 10)
 by_cases hn:n<0
 ·by_cases hs:n> -10
  ·have e1:aM 45++aM (48+(0-n))=kI n:=by rw[Int.zero_sub];exact UT hn (by omega)
   refine aA (n:=42) (H0:=H) (M:=[]) Tryz.func33 (by kernel_rfl) U (by rw[Tryz.ntmps33];rfl) .nil<|?_
   refine Q.rg<|Q.as U<|Q.nt<|S.sq<|Q.rg<|Q.mv U<|Q.bi U U U<|Q.nt<|S.cT U (decide_eq_true (by omega))<|S.sq<|Q.rg<|Q.mv U<|Q.bi U U U<|Q.nt<|S.cT U (decide_eq_true (by omega))<|Q.rg<|Q.mv U<|S.qu (Z.neg (r:=0-n) U (IntWalk.i64_in _ (by omega)))<|S.qu (Z.cv (r:=0-n) Tryz.underlying5 U (IntWalk.u8_in _ (by omega)) (by kernel_rfl))<|S.qu (Z.add (r:=48+(0-n)) U U (IntWalk.u8_in _ (by omega)))<|S.qu (Z.bl iT U U (dx U))<|S.qu (Z.PS (s:=aM (48+(0-n))) Tryz.underlying22 Tryz.underlying5 Tryz.underlying9 (congrArg some (CB _ ⟨by omega,by omega⟩)))<|S.qu (Z.eq (u':=.v (.string (kI n))) (Z.cat (p:=aM 45) U U (by rw[aW,aW];decide)) (by rw[e1]))<|?_
   refine Q.as U<|Q.nt<|UW.ret<|UQ.aj<|UQ.aj<|S.bG (λ_=>au U U)<|?_
   rfl
  ·have hq:n.tdiv 10= -((n.natAbs/10:Nat):Int):=by
    rw[show n= -((n.natAbs:Nat):Int) from by omega,Int.neg_tdiv]
    congr 1
    rw[Int.natAbs_neg,Int.natAbs_natCast];rfl
   have hr:n.tmod 10= -((n.natAbs % 10:Nat):Int):=by
    rw[show n= -((n.natAbs:Nat):Int) from by omega,Int.neg_tmod]
    congr 1
    rw[Int.natAbs_neg,Int.natAbs_natCast];rfl
   have e1:kI (n.tdiv 10)++aM (48+(0-n.tmod 10))=kI n:=by rw[Int.zero_sub];exact UU (by omega)
   have hds:=hds (by omega) (by omega)
   refine aA (n:=42) (H0:=H) (M:=[]) Tryz.func33 (by kernel_rfl) U (by rw[Tryz.ntmps33];rfl) .nil<|?_
   refine Q.rg<|Q.as U<|Q.nt<|S.sq<|Q.rg<|Q.mv U<|Q.bi U U U<|Q.nt<|S.cT U (decide_eq_true (by omega))<|S.sq<|Q.rg<|Q.mv U<|Q.bi U U U<|Q.nt<|S.cF U (decide_eq_false (by omega))<|UW.skip<|UQ.then<|S.sq<|?_
   refine' UW.dC (by kernel_rfl) [0,1,3,0,8,24,56,120,248,504,1023,2047] [some 14,some 15,some 16,some 17,some 18,some 19,some 20,some 21,some 22,some 23,some 24,some 2] [some (14,_),some (15,_),some (16,_),some (17,_),some (18,_),some (19,_),some (20,_),some (21,_),some (22,_),some (23,_),some (24,_),some (2,_)] [] [] U (by decide) (by decide) (I.free (by decide) U U ?gY (I.free (by decide) U U ?gZ (I.free (by decide) U U ?iK (I.free (by decide) U U ?mP (I.free (by decide) U U ?mQ (I.free (by decide) U U ?qc (I.free (by decide) U U ?qd (I.free (by decide) U U ?uD (I.free (by decide) U U ?uF (I.free (by decide) U U ?uG (I.free (by decide) U U ?qh (I.free (by decide) U U ?qi I.nil)))))))))))) ?oD
   case gY=>(intro _;exact Z.mv rfl)
   case gZ=>(intro _;exact Z.eq (u':=.v (.int .i64 (n.tdiv 10))) (Z.bi rfl rfl rfl) (by rw[IntWalk.i64_in _ (by omega)]))
   case iK=>(intro _;exact Z.call rfl rfl (λH=>ih (n.natAbs/10) (by omega) (n.tdiv 10) (by omega) (by omega) (by omega) H))
   case mP=>(intro _;exact Z.mv rfl)
   case mQ=>(intro _;exact Z.bi (vr:=.int .i64 (n.tmod 10)) rfl rfl rfl)
   case qc=>(intro _;exact Z.neg (r:=0-n.tmod 10) rfl (IntWalk.i64_in _ (by omega)))
   case qd=>(intro _;exact Z.cv (r:=0-n.tmod 10) Tryz.underlying5 rfl (IntWalk.u8_in _ (by omega)) (by kernel_rfl))
   case uD=>(intro _;exact Z.add (r:=48+(0-n.tmod 10)) rfl rfl (IntWalk.u8_in _ (by omega)))
   case uF=>(intro _;exact Z.bl iT rfl rfl (dx rfl))
   case uG=>(intro _;exact Z.PS (s:=aM (48+(0-n.tmod 10))) Tryz.underlying22 Tryz.underlying5 Tryz.underlying9 (congrArg some (CB _ ⟨by omega,by omega⟩)))
   case qh=>(intro _;exact Z.eq (u':=.v (.string (kI n))) (Z.cat rfl rfl (by rw[aW];omega)) (by rw[e1]))
   case qi=>(intro _;exact Z.as rfl)
   refine CH.nil<|?_
   simp only[app,bV]
   refine UQ.then<|UW.ret<|UQ.aj<|S.bG (λ_=>au U U)<|?_
   rfl
 ·by_cases hs:n<10
  ·have e1:=UX (n:=n) (by omega) hs
   refine aA (n:=42) (H0:=H) (M:=[]) Tryz.func33 (by kernel_rfl) U (by rw[Tryz.ntmps33];rfl) .nil<|?_
   refine Q.rg<|Q.as U<|Q.nt<|S.sq<|Q.rg<|Q.mv U<|Q.bi U U U<|Q.nt<|S.cF U (decide_eq_false (by omega))<|UW.skip<|UQ.then<|S.sq<|Q.rg<|Q.mv U<|Q.bi U U U<|Q.nt<|S.cT U (decide_eq_true (by omega))<|Q.rg<|Q.mv U<|S.qu (Z.cv (r:=n) Tryz.underlying5 U (IntWalk.u8_in _ (by omega)) (by kernel_rfl))<|S.qu (Z.add (r:=48+n) U U (IntWalk.u8_in _ (by omega)))<|S.qu (Z.bl iT U U (dx U))<|S.qu (Z.PS (s:=kI n) Tryz.underlying22 Tryz.underlying5 Tryz.underlying9 (congrArg some (e1▸CB _ ⟨by omega,by omega⟩)))<|Q.as U<|Q.nt<|UW.ret<|UQ.aj<|S.bG (λ_=>au U U)<|?_
   rfl
  ·have hq:n.tdiv 10=n/10:=Int.tdiv_eq_ediv_of_nonneg (by omega)
   have hr:n.tmod 10=n % 10:=Int.tmod_eq_emod_of_nonneg (by omega)
   have e1:=UY (n:=n) (by omega)
   have hds:=hds (by omega) (by omega)
   refine aA (n:=42) (H0:=H) (M:=[]) Tryz.func33 (by kernel_rfl) U (by rw[Tryz.ntmps33];rfl) .nil<|?_
   refine Q.rg<|Q.as U<|Q.nt<|S.sq<|Q.rg<|Q.mv U<|Q.bi U U U<|Q.nt<|S.cF U (decide_eq_false (by omega))<|UW.skip<|UQ.then<|S.sq<|Q.rg<|Q.mv U<|Q.bi U U U<|Q.nt<|S.cF U (decide_eq_false (by omega))<|UW.skip<|UQ.then<|S.sq<|?_
   refine' UW.dC (by kernel_rfl) [0,1,3,0,8,24,56,120,248,511,1023] [some 32,some 33,some 34,some 35,some 36,some 37,some 38,some 39,some 40,some 41,some 2] [some (32,_),some (33,_),some (34,_),some (35,_),some (36,_),some (37,_),some (38,_),some (39,_),some (40,_),some (41,_),some (2,_)] [] [] U (by decide) (by decide) (I.free (by decide) U U ?ic (I.free (by decide) U U ?ig (I.free (by decide) U U ?mX (I.free (by decide) U U ?qj (I.free (by decide) U U ?ql (I.free (by decide) U U ?uL (I.free (by decide) U U ?uM (I.free (by decide) U U ?uO (I.free (by decide) U U ?uP (I.free (by decide) U U ?uQ (I.free (by decide) U U ?qm I.nil))))))))))) ?oF
   case ic=>(intro _;exact Z.mv rfl)
   case ig=>(intro _;exact Z.eq (u':=.v (.int .i64 (n.tdiv 10))) (Z.bi rfl rfl rfl) (by rw[IntWalk.i64_in _ (by omega)]))
   case mX=>(intro _;exact Z.call rfl rfl (λH=>ih (n.natAbs/10) (by omega) (n.tdiv 10) (by omega) (by omega) (by omega) H))
   case qj=>(intro _;exact Z.mv rfl)
   case ql=>(intro _;exact Z.bi (vr:=.int .i64 (n.tmod 10)) rfl rfl rfl)
   case uL=>(intro _;exact Z.cv (r:=n.tmod 10) Tryz.underlying5 rfl (IntWalk.u8_in _ (by omega)) (by kernel_rfl))
   case uM=>(intro _;exact Z.add (r:=48+n.tmod 10) rfl rfl (IntWalk.u8_in _ (by omega)))
   case uO=>(intro _;exact Z.bl iT rfl rfl (dx rfl))
   case uP=>(intro _;exact Z.PS (s:=aM (48+n.tmod 10)) Tryz.underlying22 Tryz.underlying5 Tryz.underlying9 (congrArg some (CB _ ⟨by omega,by omega⟩)))
   case uQ=>(intro _;exact Z.eq (u':=.v (.string (kI n))) (Z.cat rfl rfl (by rw[aW];omega)) (by rw[e1]))
   case qm=>(intro _;exact Z.as rfl)
   refine CH.nil<|?_
   simp only[app,bV]
   refine UQ.then<|UW.ret<|S.bG (λ_=>au U U)<|?_
   rfl
theorem BF(a b:ByteArray)(ha:a.size<=1000)(hb:b.size<=1000)(l:List ByteArray)(hl:l.length<=140737488355328)(hs:(fP l comma).size<=10000000000000)(i len:Nat)(hle:len=l.length)(H:Hp)(hi:H i=some (.row 9 1 (l.map encS))):F Tryz.prog 32 [.v (.string a),.own i 0 len 1,.v (.string b)] H (bn H (.v (.string ((a++fP l comma)++b)))):=by
 refine aA (n:=13) (H0:=H) (M:=[]) Tryz.func32 (by kernel_rfl) U (by rw[Tryz.ntmps32];rfl) .nil<|?_
 refine Q.rg<|Q.as U<|Q.nt<|Q.rg<|Q.mv U<|Q.mv U<|S.qu (Z.aQ U U (λ_=>Ev l comma hl (by omega) i len hle _ hi))<|S.qu (Z.cat U U (by omega))<|Q.mv U<|S.qu (Z.cat U U (by rw[aY];omega))<|?_
 refine Q.as U<|Q.nt<|UW.ret<|S.bG (λ_=>au U U)<|?_
 rfl
theorem getD_lt{α:Type}{l:List α}{i:Nat}{z:α}(h:i<l.length):l.getD i z=l[i]:=by simp[List.getD,h]
theorem IB{k n:Int}{t:ByteArray}{ks:List ByteArray}{vs:List V}(hp:Pr (.mk k n t ks vs)):(-9223372036854775808<=n/\n<=9223372036854775807)/\t.size<=1000000000/\zy ks<=1000000000/\∀b,o5 (eY b ks (vs.map bJ))<=1000000000:=by
 have hw:=hp.wt
 rw[kL] at hw
 have hn:(-9223372036854775808<=n/\n<=9223372036854775807):=by
  have:=hp.num
  cases this with|mk _ _ _ _ _ a b c=>exact⟨a,b⟩
 refine⟨hn,by omega,by omega,λb=>?_⟩
 have h1:=sD b ks (vs.map bJ)
 have h2:=ET vs (λx hx=>G9 (hp.kid hx).num)
 omega
theorem yA(P:List ByteArray)(j:Nat)(h:j<P.length):P.take (j+1)=P.take j++[P.getD j ⟨#[]⟩]:=by rw[List.take_add_one,List.getElem?_eq_getElem h,getD_lt h];rfl
theorem IC(P:List ByteArray)(j:Nat)(h:j<P.length)(x:ByteArray)(hx:P.getD j ⟨#[]⟩=x):((P.take j).map encS).take j++[[.v (.string x)]]=(P.take (j+1)).map encS:=by
 rw[yA P j h,hx,List.map_append,List.take_of_length_le (by rw[List.length_map,List.length_take];omega)];rfl
theorem vw(x:V)(hf:Fits x):∀(hp:Pr x) (H:Hp) {ga gb:Addr} (hG:bO ga gb H),F Tryz.prog 16 [.agg (aN x)] H (bn H (.v (.string (bJ x)))):=by
 induction hf with
 |mk k n t ks vs hl1 hl2 Zp ih=>
 intro hp H ga gb hG
 obtain⟨hn,ht,hwk,hsum⟩:=IB hp
 have hsum:=hsum (decide (k=5))
 have hvl:=aS vs
 have hkl:(ks.map encS).length=ks.length:=List.length_map ..
 have X5:(eY (decide (k=5)) ks (vs.map bJ)).length=vs.length:=by rw[su,List.length_map]
 refine aA (n:=67) (H0:=H) (M:=[]) Tryz.func16 (by kernel_rfl) U (by rw[Tryz.ntmps16];rfl) .nil<|?_
 refine Q.rg<|S.dd<|D.box U U U λp1=>Q.as U<|Q.nt<|Q.rg<|Q.as U<|US.DZ 3 9 1 (by decide) U λp3=>Q.nt<|S.sq<|Q.rg<|Q.fa bQ U<|Q.lc 1 dm U U U<|S.qu (Z.iy bR U)<|Q.mv U<|Q.nt<|UW.block<|S.loop (λj:Nat×Nat=>[(10,.v (.int .i64 (j.1:Int))),(9,.v (.int .i64 ((bE vs).length:Int))),(8,.sl (bE vs)),(3,.own j.2 0 j.1 1),(1,.ptr p1 0)]) (λj=>[(j.2,.row 9 1 (((eY (decide (k=5)) ks (vs.map bJ)).take j.1).map encS)),(p1,.box 27 (aN (.mk k n t ks vs)))]) (λj=>j.1<=vs.length) (λj=>vs.length-j.1) (0,p3) (Nat.zero_le _) ⟨rfl,rfl,rfl,rfl,rfl,trivial⟩ (.refl _)<|?_
 rintro⟨j,r⟩ hj
 dsimp only at hj⊢
 have hrl:(((eY (decide (k=5)) ks (vs.map bJ)).take j).map encS).length=j:=by rw[List.length_map,List.length_take];omega
 by_cases hlt:j<vs.length
 ·have hgl:=jh vs j hlt
  have hat:=AB (decide (k=5)) ks (vs.map bJ) j (by rw[List.length_map];exact hlt)
  have hsz:=ES (eY (decide (k=5)) ks (vs.map bJ)) j (by omega)
  rw[<-getD_lt (z:=⟨#[]⟩),hat] at hsz
  have Zq:(vs.map bJ).getD j ⟨#[]⟩=bJ vs[j]:=by rw[getD_lt (by rw[List.length_map];exact hlt),List.getElem_map]
  rw[Zq] at hat hsz
  by_cases hb:k=5/\j<ks.length
  ·have Yk:=gT ks j hb.2
   have hkb:=JI ks j hb.2
   rw[if_pos ⟨decide_eq_true hb.1,hb.2⟩,getD_lt hb.2] at hat hsz
   rw[aY,aY,aW] at hsz
   have hsn:=IC _ j (by omega) _ hat
   focus
    refine Q.rg<|Q.bi U U U<|Q.nt<|S.sq<|S.cT U (decide_eq_true (by omega))<|UW.skip<|UQ.then<|S.sq<|UW.block<|Q.rg<|Q.mv U<|S.qu (Z.ia bR U U (by omega) (by assumption) (by exact ak _))<|?_
    refine S.qu (Z.Cn ay U (ak _))<|S.dd<|D.al z27 U U U λp5=>Q.as U<|S.s<|D.l8 0 ay U U U U (by exact aH _) (ak _) U U λ_=>?_
    refine Q.nt<|Q.rg<|S.qu (Z.bg 0 ay U U (ak _))<|S.qu (Z.bU U U (λ_ hS=>ih _ (List.getElem_mem hlt) (hp.kid (List.getElem_mem hlt)) _ (hG.mono hS)))<|Q.as U<|Q.nt<|S.sq<|Q.rg<|Q.fa eO U<|Q.lc 2 bC U U U<|Q.bi U U U<|Q.mv U<|?_
    refine S.tE 20 (λmO=>?_) (λmO=>?_)
    rotate_left
    omega
    refine Q.on (Z.mv U)<|Q.on (Z.fa dU U)<|Q.on (Z.dQ 2 iE U U U)<|Q.on (Z.iy bS U)<|Q.on (Z.bi U U U)<|Q.pk U U<|Q.nt<|S.cT U (decide_eq_true (by omega))<|S.rg<|Q.fa dU U<|Q.lc 2 iE U U U<|Q.mv U<|S.qu (Z.ia bS U U (by omega) (by assumption) (by rfl))<|?_
    refine S.qu (Z.lF fJ U)<|S.qu (Z.call U U (λ_=>Aq _ (by omega) _))<|S.qu (Z.cat (q:=aM 58) U U (by rw[aW];omega))<|?_
    refine Q.mv U<|S.qu (Z.cat U U (by rw[aY,aW];omega))<|?_
    refine Q.as U<|Q.nt<|S.rg<|Q.mv U<|Q.mv U<|S.qu (Z.bl iM U U (dx U))<|S.dd<|D.ap 1 iM U U (by omega) U (.sl (pM U)) (by first|omega|(simp;omega)) hsn λp39=>?_
    refine Q.as U<|US.nil<|UQ.aI<|UQ.then<|S.rg<|S.qu (Z.add (r:=((j+1:Nat):Int)) U U (IntWalk.i64_in _ (by omega)))<|Q.mv U<|US.nil<|?_
    refine S.back (j+1,p39) ⟨rfl,rfl,rfl,rfl,rfl,trivial⟩ (by repeat (first|exact List.Sublist.refl _|exact List.nil_sublist _|refine .cons_cons _ ?_|refine .cons _ ?_)) (by omega) (by omega)
  ·rw[if_neg (λh=>hb ⟨of_decide_eq_true h.1,h.2⟩)] at hat hsz
   have hsn:=IC _ j (by omega) _ hat
   refine Q.rg<|Q.bi U U U<|Q.nt<|S.sq<|S.cT U (decide_eq_true (by omega))<|UW.skip<|UQ.then<|S.sq<|UW.block<|Q.rg<|Q.mv U<|S.qu (Z.ia bR U U (by omega) (by assumption) (by exact ak _))<|?_
   refine S.qu (Z.Cn ay U (ak _))<|S.dd<|D.al z27 U U U λp5=>Q.as U<|S.s<|D.l8 0 ay U U U U (by exact aH _) (ak _) U U λ_=>?_
   refine Q.nt<|Q.rg<|S.qu (Z.bg 0 ay U U (ak _))<|S.qu (Z.bU U U (λ_ hS=>ih _ (List.getElem_mem hlt) (hp.kid (List.getElem_mem hlt)) _ (hG.mono hS)))<|Q.as U<|Q.nt<|S.sq<|Q.rg<|Q.fa eO U<|Q.lc 2 bC U U U<|Q.bi U U U<|Q.mv U<|?_
   refine S.tE 20 (λmO=>?_) (λmO=>?_)
   refine Q.on (Z.mv U)<|Q.on (Z.fa dU U)<|Q.on (Z.dQ 2 iE U U U)<|Q.on (Z.iy bS U)<|Q.on (Z.bi U U U)<|Q.pk U U<|Q.nt<|S.cF U (decide_eq_false (by omega))<|UW.skip<|UQ.then<|S.rg<|Q.mv U<|Q.mv U<|S.qu (Z.bl iM U U (dx U))<|S.dd<|D.ap 1 iM U U (by omega) U (.sl (pM U)) (by first|omega|(simp;omega)) hsn λp39=>?_
   refine Q.as U<|US.nil<|UQ.aI<|UQ.then<|S.rg<|S.qu (Z.add (r:=((j+1:Nat):Int)) U U (IntWalk.i64_in _ (by omega)))<|Q.mv U<|US.nil<|?_
   refine S.back (j+1,p39) ⟨rfl,rfl,rfl,rfl,rfl,trivial⟩ (by repeat (first|exact List.Sublist.refl _|exact List.nil_sublist _|refine .cons_cons _ ?_|refine .cons _ ?_)) (by omega) (by omega)
   refine Q.of<|Q.of<|Q.of<|Q.of<|Q.of<|Q.pk U U<|Q.nt<|S.cF U U<|UW.skip<|UQ.then<|S.rg<|Q.mv U<|Q.mv U<|S.qu (Z.bl iM U U (dx U))<|S.dd<|D.ap 1 iM U U (by omega) U (.sl (pM U)) (by first|omega|(simp;omega)) hsn λp39=>?_
   refine Q.as U<|US.nil<|UQ.aI<|UQ.then<|S.rg<|S.qu (Z.add (r:=((j+1:Nat):Int)) U U (IntWalk.i64_in _ (by omega)))<|Q.mv U<|US.nil<|?_
   refine S.back (j+1,p39) ⟨rfl,rfl,rfl,rfl,rfl,trivial⟩ (by repeat (first|exact List.Sublist.refl _|exact List.nil_sublist _|refine .cons_cons _ ?_|refine .cons _ ?_)) (by omega) (by omega)
 ·have hjl:j=vs.length:=by omega
  have hall:(eY (decide (k=5)) ks (vs.map bJ)).take j=eY (decide (k=5)) ks (vs.map bJ):=List.take_of_length_le (by omega)
  rw[hall]
  rw[hall] at hrl
  have hjs:=qy (eY (decide (k=5)) ks (vs.map bJ))
  by_cases hk5:k=5
  ·rw[decide_eq_true hk5] at hjs X5 hsum hrl⊢
   refine Q.rg<|Q.bi U U U<|Q.nt<|S.sq<|S.cF U (decide_eq_false (by omega))<|UW.exit<|UQ.pass<|UQ.pass<|UQ.here<|UQ.then<|S.sq<|Q.rg<|Q.fa eO U<|Q.lc 1 bC U U U<|Q.nt<|UW.block<|Q.rg<|Q.bi U U U<|Q.as U<|Q.nt<|S.cF U (bf (by omega))<|Q.rg<|Q.bi U U U<|Q.as U<|Q.nt<|S.cF U (bf (by omega))<|Q.rg<|Q.bi U U U<|Q.as U<|Q.nt<|S.cF U (bf (by omega))<|Q.rg<|Q.bi U U U<|Q.as U<|Q.nt<|S.cF U (bf (by omega))<|Q.rg<|Q.bi U U U<|Q.as U<|Q.nt<|S.cT U (cZ (by omega))<|Q.rg<|Q.mv U<|S.qu (Z.aQ U U (λhd=>BF (aM 123) (aM 125) (by decide) (by decide) _ (by omega) (by omega) r j (by omega) _ (hd.at_ (k:=0) U)))<|Q.as U<|Q.nt<|UW.ret<|UQ.az<|UQ.aj<|S.bG (λ_=>au U U)<|?_
   focus ((congr 2;rw[fF];unfold Lf;(repeat' split)<;>first|rfl|omega);done)
  ·rw[decide_eq_false hk5] at hjs X5 hsum hrl⊢
   refine Q.rg<|Q.bi U U U<|Q.nt<|S.sq<|S.cF U (decide_eq_false (by omega))<|UW.exit<|UQ.pass<|UQ.pass<|UQ.here<|UQ.then<|S.sq<|Q.rg<|Q.fa eO U<|Q.lc 1 bC U U U<|Q.nt<|UW.block<|Q.rg<|Q.bi U U U<|Q.as U<|Q.nt<|?_
   refine S.cE U (λWl=>?_) (λWl=>?_)
   refine Q.rg<|Q.as U<|Q.nt<|UW.ret<|UQ.az<|UQ.aj<|S.bG (λ_=>au U U)<|?_
   focus ((congr 2;rw[fF];unfold Lf;(repeat' split)<;>first|rfl|omega);done)
   refine Q.rg<|Q.bi U U U<|Q.as U<|Q.nt<|?_
   refine S.cE U (λZr=>?_) (λZr=>?_)
   refine Q.rg<|Q.fa jT U<|Q.lc 1 Ea U U U<|Q.bi U U U<|S.qu (Z.call U U (λ_=>zb _ _))<|Q.as U<|Q.nt<|UW.ret<|UQ.az<|UQ.aj<|S.bG (λ_=>au U U)<|?_
   focus ((congr 2;rw[fF];unfold Lf;(repeat' split)<;>first|rfl|omega);done)
   refine Q.rg<|Q.bi U U U<|Q.as U<|Q.nt<|?_
   refine S.cE U (λuT=>?_) (λuT=>?_)
   refine Q.rg<|Q.fa jT U<|Q.lc 1 Ea U U U<|S.qu (Z.bU U U (λ_ hS=>Av n hn.1 hn.2 _ (hG.mono hS)))<|Q.as U<|Q.nt<|UW.ret<|UQ.az<|UQ.aj<|S.bG (λ_=>au U U)<|?_
   focus ((congr 2;rw[fF];unfold Lf;(repeat' split)<;>first|rfl|omega);done)
   refine Q.rg<|Q.bi U U U<|Q.as U<|Q.nt<|?_
   refine S.cE U (λKM=>?_) (λKM=>?_)
   refine Q.rg<|Q.fa qZ U<|Q.lc 1 fJ U U U<|S.qu (Z.call U U (λ_=>Aq _ (by omega) _))<|Q.as U<|Q.nt<|UW.ret<|UQ.az<|UQ.aj<|S.bG (λ_=>au U U)<|?_
   focus ((congr 2;rw[fF];unfold Lf;(repeat' split)<;>first|rfl|omega);done)
   refine Q.rg<|Q.bi U U U<|Q.as U<|Q.nt<|S.cF U (bf (by omega))<|UW.skip<|UQ.aI<|UQ.then<|Q.rg<|Q.mv U<|S.qu (Z.aQ U U (λhd=>BF (aM 91) (aM 93) (by decide) (by decide) _ (by omega) (by omega) r j (by omega) _ (hd.at_ (k:=0) U)))<|Q.as U<|Q.nt<|UW.ret<|S.bG (λ_=>au U U)<|?_
   focus ((congr 2;rw[fF];unfold Lf;(repeat' split)<;>first|rfl|omega);done)
theorem SF{k n:Int}{t:ByteArray}{ks:List ByteArray}{vs:List V}(h1:k=1)(h2:n=1):bJ (.mk k n t ks vs)=⟨#[116,114,117,101]⟩:=by
 subst h1 h2
 rw[fF]
 show Aw true=_
 kernel_rfl
theorem PK{k n:Int}{t:ByteArray}{ks:List ByteArray}{vs:List V}(h1:k=1)(h2:¬n=1):bJ (.mk k n t ks vs)=⟨#[102,97,108,115,101]⟩:=by
 subst h1
 rw[fF]
 show Aw (n==1)=_
 rw[show(n==1)=false from by simpa using h2]
 kernel_rfl
theorem xB(a:ByteArray):fP [] comma++a=a:=rF (by rw[uU];rfl)
theorem DC(P:List ByteArray)(j:Nat)(h:j<P.length)(x:ByteArray)(hx:P.getD j ⟨#[]⟩=x)(h0:0<j):(fP (P.take j) comma++comma)++x=fP (P.take (j+1)) comma:=by
 rw[yA P j h,hx,CR,if_neg (λh1=>by have:=congrArg List.length h1;rw[List.length_take,List.length_nil] at this;omega)]
theorem BG(P:List ByteArray)(h:0<P.length)(x:ByteArray)(hx:P.getD 0 ⟨#[]⟩=x):x=fP (P.take (0+1)) comma:=by
 rw[yA P 0 h,hx,List.take_zero,CR,if_pos U]
theorem yZ(x:V)(hf:Fits x):∀(hp:Pr x) (H:Hp),F Tryz.prog 17 [.agg (aN x)] H (bn H (.v (.string (bJ x)))):=by
 induction hf with
 |mk k n t ks vs hl1 hl2 Zp ih=>
 intro hp H
 obtain⟨hn,ht,hwk,hsum⟩:=IB hp
 have hsum:=hsum (decide (k=5))
 have hvl:=aS vs
 have hkl:(ks.map encS).length=ks.length:=List.length_map ..
 have X5:(eY (decide (k=5)) ks (vs.map bJ)).length=vs.length:=by rw[su,List.length_map]
 refine aA (n:=71) (H0:=H) (M:=[]) Tryz.func17 (by kernel_rfl) U (by rw[Tryz.ntmps17];rfl) .nil<|?_
 refine Q.rg<|S.dd<|D.box U U U λp1=>Q.as U<|Q.nt<|S.sq<|Q.rg<|Q.fa eO U<|Q.lc 0 bC U U U<|Q.nt<|UW.block<|Q.rg<|Q.bi U U U<|Q.as U<|Q.nt<|?_
 refine S.cE U (λYM=>?_) (λYM=>?_)
 refine Q.rg<|Q.as U<|Q.nt<|UW.ret<|UQ.az<|UQ.aj<|S.bG (λ_=>au U U)<|?_
 focus ((congr 2;rw[fF];unfold Lf;(repeat' split)<;>first|rfl|omega);done)
 refine Q.rg<|Q.bi U U U<|Q.as U<|Q.nt<|?_
 refine S.cE U (λAj=>?_) (λAj=>?_)
 refine S.sq<|Q.rg<|Q.fa jT U<|Q.lc 0 Ea U U U<|Q.bi U U U<|Q.nt<|?_
 refine S.cE U (λpY=>?_) (λpY=>?_)
 refine Q.rg<|Q.as U<|Q.nt<|UW.ret<|UQ.aj<|UQ.az<|UQ.aj<|S.bG (λ_=>au U U)<|?_
 focus (rw[SF (by assumption) (by assumption)];done)
 refine UW.skip<|UQ.then<|Q.rg<|Q.as U<|Q.nt<|UW.ret<|UQ.az<|UQ.aj<|S.bG (λ_=>au U U)<|?_
 focus (rw[PK (by assumption) (by assumption)];done)
 refine Q.rg<|Q.bi U U U<|Q.as U<|Q.nt<|?_
 refine S.cE U (λJz=>?_) (λJz=>?_)
 refine Q.rg<|Q.fa jT U<|Q.lc 0 Ea U U U<|S.qu (Z.call U U (λ_=>IA _ n U hn.1 hn.2 _))<|Q.as U<|Q.nt<|UW.ret<|UQ.az<|UQ.aj<|S.bG (λ_=>au U U)<|?_
 focus ((congr 2;rw[fF];unfold Lf;(repeat' split)<;>first|rfl|omega);done)
 refine Q.rg<|Q.bi U U U<|Q.as U<|Q.nt<|?_
 refine S.cE U (λhc19=>?_) (λhc19=>?_)
 refine Q.rg<|Q.fa qZ U<|Q.lc 0 fJ U U U<|S.qu (Z.call U U (λ_=>rD _ (by omega) _))<|Q.as U<|Q.nt<|UW.ret<|UQ.az<|UQ.aj<|S.bG (λ_=>au U U)<|?_
 focus ((congr 2;rw[fF];unfold Lf;(repeat' split)<;>first|rfl|omega);done)
 refine UW.skip<|UQ.aI<|UQ.then<|Q.rg<|Q.as U<|Q.nt<|S.sq<|Q.rg<|Q.as U<|Q.nt<|UW.block<|S.loop (λj:Nat=>[(4,.v (.int .i64 (j:Int))),(3,.v (.string (fP ((eY (decide (k=5)) ks (vs.map bJ)).take j) comma))),(1,.ptr p1 0)]) (λj=>[(p1,.box 27 (aN (.mk k n t ks vs)))]) (λj=>j<=vs.length) (λj=>vs.length-j) 0 (Nat.zero_le _) ⟨rfl,rfl,rfl,trivial⟩ (.refl _)<|?_
 rintro j hj
 have hjs:=qy ((eY (decide (k=5)) ks (vs.map bJ)).take j)
 have hjt:=CS (eY (decide (k=5)) ks (vs.map bJ)) j
 by_cases hlt:j<vs.length
 ·have hgl:=jh vs j hlt
  have hat:=AB (decide (k=5)) ks (vs.map bJ) j (by rw[List.length_map];exact hlt)
  have hsz:=ES (eY (decide (k=5)) ks (vs.map bJ)) j (by omega)
  rw[<-getD_lt (z:=⟨#[]⟩),hat] at hsz
  have Zq:(vs.map bJ).getD j ⟨#[]⟩=bJ vs[j]:=by rw[getD_lt (by rw[List.length_map];exact hlt),List.getElem_map]
  rw[Zq] at hat hsz
  by_cases hb:k=5/\j<ks.length
  ·have Yk:=gT ks j hb.2
   have hkb:=JI ks j hb.2
   rw[if_pos ⟨decide_eq_true hb.1,hb.2⟩,getD_lt hb.2] at hat hsz
   rw[aY,aY,aW] at hsz
   by_cases h0:0<j
   ·have hst:(((fP ((eY (decide (k=5)) ks (vs.map bJ)).take j) comma++comma)++dJ ks[j])++aM 58)++bJ vs[j]=fP ((eY (decide (k=5)) ks (vs.map bJ)).take (j+1)) comma:=by
     rw[<-DC _ j (by omega) _ hat h0];simp only[ByteArray.append_assoc]
    focus
     refine S.sq<|Q.rg<|Q.mv U<|Q.fa bQ U<|Q.lc 0 dm U U U<|S.qu (Z.iy bR U)<|Q.bi U U U<|Q.nt<|S.cT U (decide_eq_true (by omega))<|UW.skip<|UQ.then<|S.sq<|UW.block<|S.sq<|Q.rg<|Q.mv U<|Q.bi U U U<|Q.nt<|S.cT U (decide_eq_true (by omega))<|S.rg<|Q.mv U<|S.qu (Z.cat (q:=comma) U U (by show _+1<=_;omega))<|?_
     refine Q.as U<|Q.nt<|S.sq<|Q.rg<|Q.fa eO U<|Q.lc 0 bC U U U<|Q.bi U U U<|Q.mv U<|?_
     refine S.tE 38 (λhc38=>?_) (λhc38=>?_)
     rotate_left
     omega
     refine Q.on (Z.mv U)<|Q.on (Z.fa dU U)<|Q.on (Z.dQ 0 iE U U U)<|Q.on (Z.iy bS U)<|Q.on (Z.bi U U U)<|Q.pk U U<|Q.nt<|S.cT U (decide_eq_true (by omega))<|S.rg<|Q.mv U<|Q.fa dU U<|Q.lc 0 iE U U U<|Q.mv U<|S.qu (Z.ia bS U U (by omega) (by assumption) (by rfl))<|?_
     refine S.qu (Z.lF fJ U)<|S.qu (Z.call U U (λ_=>rD _ (by omega) _))<|S.qu (Z.cat U U (by rw[aY];show _+1+_<=_;omega))<|?_
     refine S.qu (Z.cat (q:=aM 58) U U (by rw[aY,aY,aW];show _+1+_+1<=_;omega))<|?_
     refine Q.as U<|Q.nt<|S.rg<|Q.mv U<|Q.fa bQ U<|Q.lc 0 dm U U U<|Q.mv U<|S.qu (Z.ia bR U U (by omega) (by assumption) (by exact ak _))<|?_
     refine S.qu (Z.Cn ay U (ak _))<|S.qu (Z.call U U (λ_=>ih _ (List.getElem_mem hlt) (hp.kid (List.getElem_mem hlt)) _))<|S.qu (Z.eq (u':=.v (.string (fP ((eY (decide (k=5)) ks (vs.map bJ)).take (j+1)) comma))) (Z.cat U U (by rw[aY,aY,aY,aW];show _+1+_+1+_<=_;omega)) (by rw[hst]))<|?_
     refine Q.as U<|US.nil<|UQ.aI<|UQ.then<|S.rg<|Q.mv U<|S.qu (Z.add (r:=((j+1:Nat):Int)) U U (IntWalk.i64_in _ (by omega)))<|Q.as U<|US.nil<|?_
     refine S.back _ ⟨rfl,rfl,rfl,trivial⟩ (.refl _) (by omega) (by omega)
   ·have hj0:j=0:=by omega
    subst hj0
    have hst:((fP [] comma++dJ ks[0])++aM 58)++bJ vs[0]=fP ((eY (decide (k=5)) ks (vs.map bJ)).take (0+1)) comma:=by
     rw[<-BG _ (by omega) _ hat,xB]
    focus
     refine S.sq<|Q.rg<|Q.mv U<|Q.fa bQ U<|Q.lc 0 dm U U U<|S.qu (Z.iy bR U)<|Q.bi U U U<|Q.nt<|S.cT U (decide_eq_true (by omega))<|UW.skip<|UQ.then<|S.sq<|UW.block<|S.sq<|Q.rg<|Q.mv U<|Q.bi U U U<|Q.nt<|S.cF U (decide_eq_false (by omega))<|UW.skip<|UQ.then<|S.sq<|Q.rg<|Q.fa eO U<|Q.lc 0 bC U U U<|Q.bi U U U<|Q.mv U<|?_
     refine S.tE 38 (λhc38=>?_) (λhc38=>?_)
     rotate_left
     omega
     refine Q.on (Z.mv U)<|Q.on (Z.fa dU U)<|Q.on (Z.dQ 0 iE U U U)<|Q.on (Z.iy bS U)<|Q.on (Z.bi U U U)<|Q.pk U U<|Q.nt<|S.cT U (decide_eq_true (by omega))<|S.rg<|Q.mv U<|Q.fa dU U<|Q.lc 0 iE U U U<|Q.mv U<|S.qu (Z.ia bS U U (by omega) (by assumption) (by rfl))<|?_
     refine S.qu (Z.lF fJ U)<|S.qu (Z.call U U (λ_=>rD _ (by omega) _))<|S.qu (Z.cat (p:=fP [] comma) U U (by rw[show(fP [] comma).size=0 from rfl];omega))<|?_
     refine S.qu (Z.cat (q:=aM 58) U U (by rw[xB,aW];omega))<|?_
     refine Q.as U<|Q.nt<|S.rg<|Q.mv U<|Q.fa bQ U<|Q.lc 0 dm U U U<|Q.mv U<|S.qu (Z.ia bR U U (by omega) (by assumption) (by exact ak _))<|?_
     refine S.qu (Z.Cn ay U (ak _))<|S.qu (Z.call U U (λ_=>ih _ (List.getElem_mem hlt) (hp.kid (List.getElem_mem hlt)) _))<|S.qu (Z.eq (u':=.v (.string (fP ((eY (decide (k=5)) ks (vs.map bJ)).take (0+1)) comma))) (Z.cat U U (by rw[xB,aY,aW];omega)) (by rw[hst]))<|?_
     refine Q.as U<|US.nil<|UQ.aI<|UQ.then<|S.rg<|Q.mv U<|S.qu (Z.add (r:=((0+1:Nat):Int)) U U (IntWalk.i64_in _ (by omega)))<|Q.as U<|US.nil<|?_
     refine S.back _ ⟨rfl,rfl,rfl,trivial⟩ (.refl _) (by omega) (by omega)
  ·rw[if_neg (λh=>hb ⟨of_decide_eq_true h.1,h.2⟩)] at hat hsz
   by_cases h0:0<j
   ·have hst:=DC _ j (by omega) _ hat h0
    refine S.sq<|Q.rg<|Q.mv U<|Q.fa bQ U<|Q.lc 0 dm U U U<|S.qu (Z.iy bR U)<|Q.bi U U U<|Q.nt<|S.cT U (decide_eq_true (by omega))<|UW.skip<|UQ.then<|S.sq<|UW.block<|S.sq<|Q.rg<|Q.mv U<|Q.bi U U U<|Q.nt<|S.cT U (decide_eq_true (by omega))<|S.rg<|Q.mv U<|S.qu (Z.cat (q:=comma) U U (by show _+1<=_;omega))<|?_
    refine Q.as U<|Q.nt<|S.sq<|Q.rg<|Q.fa eO U<|Q.lc 0 bC U U U<|Q.bi U U U<|Q.mv U<|?_
    refine S.tE 38 (λhc38=>?_) (λhc38=>?_)
    refine Q.on (Z.mv U)<|Q.on (Z.fa dU U)<|Q.on (Z.dQ 0 iE U U U)<|Q.on (Z.iy bS U)<|Q.on (Z.bi U U U)<|Q.pk U U<|Q.nt<|S.cF U (decide_eq_false (by omega))<|UW.skip<|UQ.then<|S.rg<|Q.mv U<|Q.fa bQ U<|Q.lc 0 dm U U U<|Q.mv U<|S.qu (Z.ia bR U U (by omega) (by assumption) (by exact ak _))<|?_
    refine S.qu (Z.Cn ay U (ak _))<|S.qu (Z.call U U (λ_=>ih _ (List.getElem_mem hlt) (hp.kid (List.getElem_mem hlt)) _))<|S.qu (Z.eq (u':=.v (.string (fP ((eY (decide (k=5)) ks (vs.map bJ)).take (j+1)) comma))) (Z.cat U U (by rw[aY];show _+1+_<=_;omega)) (by rw[hst]))<|?_
    refine Q.as U<|US.nil<|UQ.aI<|UQ.then<|S.rg<|Q.mv U<|S.qu (Z.add (r:=((j+1:Nat):Int)) U U (IntWalk.i64_in _ (by omega)))<|Q.as U<|US.nil<|?_
    refine S.back _ ⟨rfl,rfl,rfl,trivial⟩ (.refl _) (by omega) (by omega)
    refine Q.of<|Q.of<|Q.of<|Q.of<|Q.of<|Q.pk U U<|Q.nt<|S.cF U U<|UW.skip<|UQ.then<|S.rg<|Q.mv U<|Q.fa bQ U<|Q.lc 0 dm U U U<|Q.mv U<|S.qu (Z.ia bR U U (by omega) (by assumption) (by exact ak _))<|?_
    refine S.qu (Z.Cn ay U (ak _))<|S.qu (Z.call U U (λ_=>ih _ (List.getElem_mem hlt) (hp.kid (List.getElem_mem hlt)) _))<|S.qu (Z.eq (u':=.v (.string (fP ((eY (decide (k=5)) ks (vs.map bJ)).take (j+1)) comma))) (Z.cat U U (by rw[aY];show _+1+_<=_;omega)) (by rw[hst]))<|?_
    refine Q.as U<|US.nil<|UQ.aI<|UQ.then<|S.rg<|Q.mv U<|S.qu (Z.add (r:=((j+1:Nat):Int)) U U (IntWalk.i64_in _ (by omega)))<|Q.as U<|US.nil<|?_
    refine S.back _ ⟨rfl,rfl,rfl,trivial⟩ (.refl _) (by omega) (by omega)
   ·have hj0:j=0:=by omega
    subst hj0
    have hst:=BG _ (by omega) _ hat
    refine S.sq<|Q.rg<|Q.mv U<|Q.fa bQ U<|Q.lc 0 dm U U U<|S.qu (Z.iy bR U)<|Q.bi U U U<|Q.nt<|S.cT U (decide_eq_true (by omega))<|UW.skip<|UQ.then<|S.sq<|UW.block<|S.sq<|Q.rg<|Q.mv U<|Q.bi U U U<|Q.nt<|S.cF U (decide_eq_false (by omega))<|UW.skip<|UQ.then<|S.sq<|Q.rg<|Q.fa eO U<|Q.lc 0 bC U U U<|Q.bi U U U<|Q.mv U<|?_
    refine S.tE 38 (λhc38=>?_) (λhc38=>?_)
    refine Q.on (Z.mv U)<|Q.on (Z.fa dU U)<|Q.on (Z.dQ 0 iE U U U)<|Q.on (Z.iy bS U)<|Q.on (Z.bi U U U)<|Q.pk U U<|Q.nt<|S.cF U (decide_eq_false (by omega))<|UW.skip<|UQ.then<|S.rg<|Q.mv U<|Q.fa bQ U<|Q.lc 0 dm U U U<|Q.mv U<|S.qu (Z.ia bR U U (by omega) (by assumption) (by exact ak _))<|?_
    refine S.qu (Z.Cn ay U (ak _))<|S.qu (Z.call U U (λ_=>ih _ (List.getElem_mem hlt) (hp.kid (List.getElem_mem hlt)) _))<|S.qu (Z.eq (u':=.v (.string (fP ((eY (decide (k=5)) ks (vs.map bJ)).take (0+1)) comma))) (Z.cat (p:=fP [] comma) U U (by rw[show(fP [] comma).size=0 from rfl];omega)) (by rw[xB,<-hst]))<|?_
    refine Q.as U<|US.nil<|UQ.aI<|UQ.then<|S.rg<|Q.mv U<|S.qu (Z.add (r:=((0+1:Nat):Int)) U U (IntWalk.i64_in _ (by omega)))<|Q.as U<|US.nil<|?_
    refine S.back _ ⟨rfl,rfl,rfl,trivial⟩ (.refl _) (by omega) (by omega)
    refine Q.of<|Q.of<|Q.of<|Q.of<|Q.of<|Q.pk U U<|Q.nt<|S.cF U U<|UW.skip<|UQ.then<|S.rg<|Q.mv U<|Q.fa bQ U<|Q.lc 0 dm U U U<|Q.mv U<|S.qu (Z.ia bR U U (by omega) (by assumption) (by exact ak _))<|?_
    refine S.qu (Z.Cn ay U (ak _))<|S.qu (Z.call U U (λ_=>ih _ (List.getElem_mem hlt) (hp.kid (List.getElem_mem hlt)) _))<|S.qu (Z.eq (u':=.v (.string (fP ((eY (decide (k=5)) ks (vs.map bJ)).take (0+1)) comma))) (Z.cat (p:=fP [] comma) U U (by rw[show(fP [] comma).size=0 from rfl];omega)) (by rw[xB,<-hst]))<|?_
    refine Q.as U<|US.nil<|UQ.aI<|UQ.then<|S.rg<|Q.mv U<|S.qu (Z.add (r:=((0+1:Nat):Int)) U U (IntWalk.i64_in _ (by omega)))<|Q.as U<|US.nil<|?_
    refine S.back _ ⟨rfl,rfl,rfl,trivial⟩ (.refl _) (by omega) (by omega)
 ·have hjl:j=vs.length:=by omega
  have hall:(eY (decide (k=5)) ks (vs.map bJ)).take j=eY (decide (k=5)) ks (vs.map bJ):=List.take_of_length_le (by omega)
  rw[hall] at hjs hjt⊢
  by_cases hk5:k=5
  ·rw[decide_eq_true hk5] at hjs X5 hsum⊢
   refine S.sq<|Q.rg<|Q.mv U<|Q.fa bQ U<|Q.lc 0 dm U U U<|S.qu (Z.iy bR U)<|Q.bi U U U<|Q.nt<|S.cF U (decide_eq_false (by omega))<|UW.exit<|UQ.pass<|UQ.pass<|UQ.here<|UQ.then<|S.sq<|Q.rg<|Q.fa eO U<|Q.lc 0 bC U U U<|Q.bi U U U<|Q.nt<|S.cT U (cZ (by omega))<|Q.rg<|Q.mv U<|S.qu (Z.cat (p:=aM 123) U U (by rw[aW];omega))<|?_
   refine S.qu (Z.cat (q:=aM 125) U U (by rw[aY,aW,aW];omega))<|?_
   refine Q.as U<|Q.nt<|UW.ret<|UQ.aj<|S.bG (λ_=>au U U)<|?_
   focus ((congr 2;rw[fF];unfold Lf;(repeat' split)<;>first|rfl|omega);done)
  ·rw[decide_eq_false hk5] at hjs X5 hsum⊢
   refine S.sq<|Q.rg<|Q.mv U<|Q.fa bQ U<|Q.lc 0 dm U U U<|S.qu (Z.iy bR U)<|Q.bi U U U<|Q.nt<|S.cF U (decide_eq_false (by omega))<|UW.exit<|UQ.pass<|UQ.pass<|UQ.here<|UQ.then<|S.sq<|Q.rg<|Q.fa eO U<|Q.lc 0 bC U U U<|Q.bi U U U<|Q.nt<|S.cF U (bf (by omega))<|UW.skip<|UQ.then<|Q.rg<|Q.mv U<|S.qu (Z.cat (p:=aM 91) U U (by rw[aW];omega))<|?_
   refine S.qu (Z.cat (q:=aM 93) U U (by rw[aY,aW,aW];omega))<|?_
   refine Q.as U<|Q.nt<|UW.ret<|S.bG (λ_=>au U U)<|?_
   focus ((congr 2;rw[fF];unfold Lf;(repeat' split)<;>first|rfl|omega);done)
def qG(s:ByteArray):Bool:=(eT s).2.1==0&&((bJ (eT s).1).toList==s.toList)
theorem rP(s:ByteArray)(H:Hp){ga gb:Addr}(hG:bO ga gb H):F Tryz.prog 22 [.v (.string s)] H (bn H (.v (.bool (qG s)))):=by
 have hp:=λH hG=>og s H (ga:=ga) (gb:=gb) hG
 have hpr:=xA s
 have hpi:=λH hG=>vw (eT s).1 hpr.fits hpr H (ga:=ga) (gb:=gb) hG
 unfold qG
 unfold BC at hp
 generalize bJ (eT s).1=pv at*
 generalize eT s=r at*
 obtain⟨v,e,q⟩:=r
 dsimp only at hp hpi⊢
 obtain⟨v0,v1,v2,v3,v4⟩:=v
 by_cases he:e=0
 ·subst he
  rw[show((0:Int)==0)=true from rfl,Bool.true_and]
  refine aA (n:=20) (H0:=H) (M:=[]) Tryz.func22 (by kernel_rfl) U (by rw[Tryz.ntmps22];rfl) .nil<|?_
  focus
   refine Q.rg<|Q.as U<|Q.nt<|Q.rg<|Q.mv U<|S.qu (Z.bU U U (λH hS=>hp H (hG.mono hS)))<|Q.mv U<|S.qu (Z.ex U U)<|S.qu (Z.ex U U)<|S.qu (Z.ex U U)<|S.dd<|D.al z27 U U U λp3=>S.s<|D.st 0 ay U U U U U U U U λ_=>Q.as U<|Q.as U<|Q.nt<|Q.rg<|Q.mv U<|Q.bi U U U<|Q.mv U<|?_
   refine S.tE 14 (λJz=>?_) (λJz=>?_)
   rotate_left
   omega
   refine Q.on (Z.bg 0 ay U U U)<|Q.on (Z.bU U U (λH hS=>hpi H (hG.mono hS)))<|Q.on (Z.mv U)<|Q.on (Z.bs U U U)<|Q.pk U U<|Q.as U<|Q.nt<|UW.ret<|S.bG (λ_=>au U U)<|?_
   rfl
 ·rw[beq_eq_false_iff_ne.2 he,Bool.false_and]
  refine aA (n:=20) (H0:=H) (M:=[]) Tryz.func22 (by kernel_rfl) U (by rw[Tryz.ntmps22];rfl) .nil<|?_
  refine Q.rg<|Q.as U<|Q.nt<|Q.rg<|Q.mv U<|S.qu (Z.bU U U (λH hS=>hp H (hG.mono hS)))<|Q.mv U<|S.qu (Z.ex U U)<|S.qu (Z.ex U U)<|S.qu (Z.ex U U)<|S.dd<|D.al z27 U U U λp3=>S.s<|D.st 0 ay U U U U U U U U λ_=>Q.as U<|Q.as U<|Q.nt<|Q.rg<|Q.mv U<|Q.bi U U U<|Q.mv U<|S.tF 14 (bf (by omega))<|Q.of<|Q.of<|Q.of<|Q.of<|Q.pk U U<|Q.as U<|Q.nt<|UW.ret<|S.bG (λ_=>au U U)<|?_
  rfl
theorem IE(s:ByteArray)(H:Hp):F Tryz.prog 28 [.v (.string s)] H (bn H (.v (.bool (qG s)))):=by
 have hp:=λH=>yX s H
 have hpr:=xA s
 have hpi:=λH=>yZ (eT s).1 hpr.fits hpr H
 unfold qG
 unfold Bv at hp
 generalize bJ (eT s).1=pv at*
 generalize eT s=r at*
 obtain⟨v,e,q⟩:=r
 dsimp only at hp hpi⊢
 obtain⟨v0,v1,v2,v3,v4⟩:=v
 by_cases he:e=0
 ·subst he
  rw[show((0:Int)==0)=true from rfl,Bool.true_and]
  refine aA (n:=20) (H0:=H) (M:=[]) Tryz.func28 (by kernel_rfl) U (by rw[Tryz.ntmps28];rfl) .nil<|?_
  focus
   refine Q.rg<|Q.as U<|Q.nt<|Q.rg<|Q.mv U<|S.qu (Z.call U U (λH=>hp H))<|Q.mv U<|S.qu (Z.ex U U)<|S.qu (Z.ex U U)<|S.qu (Z.ex U U)<|S.dd<|D.al z27 U U U λp3=>S.s<|D.st 0 ay U U U U U U U U λ_=>Q.as U<|Q.as U<|Q.nt<|Q.rg<|Q.mv U<|Q.bi U U U<|Q.mv U<|?_
   refine S.tE 14 (λJz=>?_) (λJz=>?_)
   rotate_left
   omega
   refine Q.on (Z.bg 0 ay U U U)<|Q.on (Z.call U U (λH=>hpi H))<|Q.on (Z.mv U)<|Q.on (Z.bs U U U)<|Q.pk U U<|Q.as U<|Q.nt<|UW.ret<|S.bG (λ_=>au U U)<|?_
   rfl
 ·rw[beq_eq_false_iff_ne.2 he,Bool.false_and]
  refine aA (n:=20) (H0:=H) (M:=[]) Tryz.func28 (by kernel_rfl) U (by rw[Tryz.ntmps28];rfl) .nil<|?_
  refine Q.rg<|Q.as U<|Q.nt<|Q.rg<|Q.mv U<|S.qu (Z.call U U (λH=>hp H))<|Q.mv U<|S.qu (Z.ex U U)<|S.qu (Z.ex U U)<|S.qu (Z.ex U U)<|S.dd<|D.al z27 U U U λp3=>S.s<|D.st 0 ay U U U U U U U U λ_=>Q.as U<|Q.as U<|Q.nt<|Q.rg<|Q.mv U<|Q.bi U U U<|Q.mv U<|S.tF 14 (bf (by omega))<|Q.of<|Q.of<|Q.of<|Q.of<|Q.pk U U<|Q.as U<|Q.nt<|UW.ret<|S.bG (λ_=>au U U)<|?_
  rfl
end Go.Proofs.YtbooeongacgnbaaGreatDoor
end
