/- A part of the proof. -/
import Derived.Test.YtbooeongacgnbaaGreatDoorMw11
set_option maxRecDepth 100000
set_option maxHeartbeats 4000000
set_option linter.unusedSectionVars false
set_option linter.unusedVariables false
set_option linter.unusedSimpArgs false
section
namespace Go.Proofs.YtbooeongacgnbaaGreatDoor
open Go Go.gW Go.RowKit
def bt(s:ByteArray)(i:Nat):Nat:=(s.get! i).toNat
theorem eX(s:ByteArray)(i:Nat)(h:i<s.size):bt s i=(s[i]'h).toNat:=by
 have e:s.get! i=s[i]'h:=by simp[ByteArray.get!,getElem!_pos,h];rfl
 unfold bt;rw[e]
theorem kZ(s:ByteArray)(i:Nat):bt s i<256:=UInt8.toNat_lt _
theorem kH(c m:Int)(hm:kv c=m)(H:Hp):F Tryz.prog 58 [.v (.int .u8 c)] H (bn H (.v (.int .i64 m))):=by rw[<-hm];exact Ml c H
def dA(s:ByteArray)(i:Nat):Bool:=decide (128<=bt s i)&&decide (bt s i<=191)
def iX(s:ByteArray)(r0:Int):Nat->Int
 |0=>r0
 |i+1=>64*iX s r0 i+(bt s (i+1):Int).tmod 64
theorem La(s:ByteArray)(r0:Int)(h0:0<=r0)(h1:r0<=255):∀i,0<=iX s r0 i/\iX s r0 i<=256*64^i-1
 |0=>by simp only[iX];omega
 |i+1=>by
  have ih:=La s r0 h0 h1 i
  have h2:0<=(bt s (i+1):Int).tmod 64:=Int.tmod_nonneg _ (by omega)
  have h3:(bt s (i+1):Int).tmod 64<64:=Int.tmod_lt_of_pos _ (by decide)
  simp only[iX,Int.pow_succ]
  omega
theorem zo(s:ByteArray)(r0:Int)(h0:0<=r0)(h1:r0<=255)(i:Nat)(hi:i<=3):0<=iX s r0 i/\iX s r0 i<=67108863:=by
 have h:=La s r0 h0 h1 i
 match i with
 |0=>simp at h;omega
 |1=>simp at h;omega
 |2=>simp at h;omega
 |3=>simp at h;omega
 |i+4=>omega
def bY(least r:Int):Bool:=decide (least<=r)&&(!(decide (55296<=r)&&decide (r<=57343))&&decide (r<=1114111))
def iY(s:ByteArray)(n:Nat)(least r0:Int):Int:=if (List.range n).all (λi=>dA s (i+1)) then(if bY least (iX s r0 n) then(n:Int)+1 else 0) else 0
def fA(s:ByteArray):Int:=
 if s.size=0 then 0
 else if kv (bt s 0)<0 then 0
 else if (s.size:Int)<=kv (bt s 0) then 0
 else if kv (bt s 0)=0 then iY s 0 0 (bt s 0)
 else if kv (bt s 0)=1 then iY s 1 128 ((bt s 0:Int).tmod 32)
 else if kv (bt s 0)=2 then iY s 2 2048 ((bt s 0:Int).tmod 16)
 else iY s 3 65536 ((bt s 0:Int).tmod 8)
theorem Ak(c:Int):kv c<=3:=by unfold kv;repeat' split
                              all_goals omega
theorem sj(s:ByteArray):(s.toList==(⟨#[]⟩:ByteArray).toList)=decide (s.size=0):=by
 rw[Lib.toList_data,Lib.toList_data]
 obtain⟨⟨l⟩⟩:=s
 cases l with
 |nil=>rfl
 |cons a l=>rfl
theorem Al(s:ByteArray)(hs:s.size<=4000000)(H:Hp):F Tryz.prog 38 [.v (.string s)] H (bn H (.v (.int .i64 (fA s)))):=by
 have hb0:=kZ s 0
 refine aA (n:=80) (H0:=H) (M:=[]) Tryz.func38 (by kernel_rfl) U (by rw[Tryz.ntmps38];rfl) .nil<|?_
 refine Q.rg<|Q.as U<|Q.nt<|UW.seq<|Q.rg<|?_
 by_cases h0:s.size=0
 ·refine Q.mv U<|US.kQ U (by decide) U U U U (r:=true) (congrArg some ((sj s).trans (decide_eq_true h0)))<|Q.mv U<|Q.of<|Q.of<|Q.of<|Q.of<|Q.pk U U<|Q.mv U<|Q.of<|Q.of<|Q.of<|Q.of<|Q.of<|Q.of<|Q.pk U U<|Q.nt<|?_
  refine UW.cond U (λ_=>?_) (λh=>absurd h (by simp))
  refine Q.rg<|Q.as U<|Q.nt<|UW.ret<|UQ.aj<|?_
  refine bD [] (λ_=>au U U) (.refl _) λhd=>⟨?_,rfl⟩
  rw[fA,if_pos h0]
 ·obtain⟨m,hm⟩:∃m,kv (bt s 0)=m:=⟨_,rfl⟩
  have ZJ:m<=3:=hm▸Ak _
  by_cases m0:m<0
  ·refine Q.mv U<|US.kQ U (by decide) U U U U (r:=false) (congrArg some ((sj s).trans (decide_eq_false h0)))<|Q.mv U<|?_
   (refine US.on U U (by decide) U ?_;refine US.move U (by decide) U U U ?_)
   (refine US.on U U (by decide) U ?_;refine US.bz U (by decide) U U Tryz.underlying9 U U (by omega) (by omega) (c:=(bt s 0:Int)) (by rw[eX s 0 (by omega)];rfl) ?_)
   (refine US.on U U (by decide) U ?_;refine US.gq U (by decide) U U U U (λ_=>kH _ m hm _) ?_)
   (refine US.on U U (by decide) U ?_;refine US.aG U (by decide) U U U U (r:=.bool true) (by(simp[fu,fB,m0];done)) ?_)
   refine Q.pk U U<|Q.mv U<|Q.of<|Q.of<|Q.of<|Q.of<|Q.of<|Q.of<|Q.pk U U<|Q.nt<|?_
   refine UW.cond U (λ_=>?_) (λh=>absurd h (by simp))
   refine Q.rg<|Q.as U<|Q.nt<|UW.ret<|UQ.aj<|?_
   refine bD [] (λ_=>au U U) (.refl _) λhd=>⟨?_,rfl⟩
   rw[fA,if_neg h0,hm,if_pos m0]
  ·by_cases m1:m>=(s.size:Int)
   ·refine Q.mv U<|US.kQ U (by decide) U U U U (r:=false) (congrArg some ((sj s).trans (decide_eq_false h0)))<|Q.mv U<|?_
    (refine US.on U U (by decide) U ?_;refine US.move U (by decide) U U U ?_)
    (refine US.on U U (by decide) U ?_;refine US.bz U (by decide) U U Tryz.underlying9 U U (by omega) (by omega) (c:=(bt s 0:Int)) (by rw[eX s 0 (by omega)];rfl) ?_)
    (refine US.on U U (by decide) U ?_;refine US.gq U (by decide) U U U U (λ_=>kH _ m hm _) ?_)
    (refine US.on U U (by decide) U ?_;refine US.aG U (by decide) U U U U (r:=.bool false) (by(simp[fu,fB,m0];done)) ?_)
    refine Q.pk U U<|Q.mv U<|?_
    (refine US.on U U (by decide) U ?_;refine US.move U (by decide) U U U ?_)
    (refine US.on U U (by decide) U ?_;refine US.bz U (by decide) U U Tryz.underlying9 U U (by omega) (by omega) (c:=(bt s 0:Int)) (by rw[eX s 0 (by omega)];rfl) ?_)
    (refine US.on U U (by decide) U ?_;refine US.gq U (by decide) U U U U (λ_=>kH _ m hm _) ?_)
    (refine US.on U U (by decide) U ?_;refine US.move U (by decide) U U U ?_)
    (refine US.on U U (by decide) U ?_;refine US.nG U (by decide) U U Tryz.underlying9 U ?_)
    (refine US.on U U (by decide) U ?_;refine US.aG U (by decide) U U U U (r:=.bool true) (by(simp[fu,fB,m1];done)) ?_)
    refine Q.pk U U<|Q.nt<|?_
    refine UW.cond U (λ_=>?_) (λh=>absurd h (by simp))
    refine Q.rg<|Q.as U<|Q.nt<|UW.ret<|UQ.aj<|?_
    refine bD [] (λ_=>au U U) (.refl _) λhd=>⟨?_,rfl⟩
    rw[fA,if_neg h0,hm,if_neg m0,if_pos (by omega)]
   ·refine Q.mv U<|US.kQ U (by decide) U U U U (r:=false) (congrArg some ((sj s).trans (decide_eq_false h0)))<|Q.mv U<|?_
    (refine US.on U U (by decide) U ?_;refine US.move U (by decide) U U U ?_)
    (refine US.on U U (by decide) U ?_;refine US.bz U (by decide) U U Tryz.underlying9 U U (by omega) (by omega) (c:=(bt s 0:Int)) (by rw[eX s 0 (by omega)];rfl) ?_)
    (refine US.on U U (by decide) U ?_;refine US.gq U (by decide) U U U U (λ_=>kH _ m hm _) ?_)
    (refine US.on U U (by decide) U ?_;refine US.aG U (by decide) U U U U (r:=.bool false) (by(simp[fu,fB,m0];done)) ?_)
    refine Q.pk U U<|Q.mv U<|?_
    (refine US.on U U (by decide) U ?_;refine US.move U (by decide) U U U ?_)
    (refine US.on U U (by decide) U ?_;refine US.bz U (by decide) U U Tryz.underlying9 U U (by omega) (by omega) (c:=(bt s 0:Int)) (by rw[eX s 0 (by omega)];rfl) ?_)
    (refine US.on U U (by decide) U ?_;refine US.gq U (by decide) U U U U (λ_=>kH _ m hm _) ?_)
    (refine US.on U U (by decide) U ?_;refine US.move U (by decide) U U U ?_)
    (refine US.on U U (by decide) U ?_;refine US.nG U (by decide) U U Tryz.underlying9 U ?_)
    (refine US.on U U (by decide) U ?_;refine US.aG U (by decide) U U U U (r:=.bool false) (by(simp[fu,fB,m1];done)) ?_)
    refine Q.pk U U<|Q.nt<|UW.cond U (λh=>absurd h (by simp)) λ_=>?_
    refine UW.skip<|UQ.then<|Q.rg<|Q.mv U<|US.bz U (by decide) U U Tryz.underlying9 U U (by omega) (by omega) (c:=(bt s 0:Int)) (by rw[eX s 0 (by omega)];rfl)<|?_
    refine US.gq U (by decide) U U U U (λ_=>kH _ m hm _)<|Q.as U<|Q.nt<|Q.rg<|Q.mv U<|US.bz U (by decide) U U Tryz.underlying9 U U (by omega) (by omega) (c:=(bt s 0:Int)) (by rw[eX s 0 (by omega)];rfl)<|?_
    refine US.conv U (by decide) U U (by rw[Tryz.underlying5];rfl) Tryz.underlying3 U (r:=(bt s 0:Int)) (IntWalk.i64_in _ (by omega))<|?_
    refine Q.as U<|Q.nt<|UW.seq<|Q.rg<|?_
    obtain rfl|rfl|rfl|rfl:m=0\/m=1\/m=2\/m=3:=by omega
    ·have hone:fA s=iY s 0 0 ((bt s 0:Int)):=by
      unfold fA
      rw[if_neg h0,hm,if_neg (by omega),if_neg (by omega)];rfl
     refine Q.mv U<|Q.bi U U U<|Q.nt<|UW.cond U (λh=>absurd h (by simp)) λ_=>?_
     refine UW.skip<|UQ.then<|UW.seq<|Q.rg<|Q.as U<|Q.nt<|UW.block<|UW.loop (λi:Nat=>[(5,.v (.int .i64 ((i+1:Nat):Int))),(3,.v (.int .i64 0)),(4,.v (.int .i64 (iX s ((bt s 0:Int)) i))),(0,.v (.string s))]) (λ_=>[]) (λi=>i<=0/\∀j,j<i->dA s (j+1)=true) (λi=>0-i) 0 ⟨Nat.zero_le _,λj h=>absurd h (by omega)⟩ ⟨rfl,rfl,rfl,rfl,trivial⟩ (.refl _)<|?_
     rintro i ⟨hi,hj⟩
     have hb:=zo s ((bt s 0:Int)) (by omega) (by omega) i (by omega)
     refine UW.seq<|Q.rg<|Q.mv U<|Q.mv U<|Q.bi U U U<|Q.nt<|?_
     refine UW.cond U (λh=>?_) (λh=>?_)
     ·have h:=of_decide_eq_true h
      have hlt:i<0:=by omega
      have hbi:=kZ s (i+1)
      have bad:dA s (i+1)=false->(List.range 0).all (λi=>dA s (i+1))=false:=λhb=>by
       rw[List.all_eq_false]
       exact⟨i,List.mem_range.2 hlt,by simp[hb]⟩
      refine UW.skip<|UQ.then<|UW.seq<|UW.block<|UW.seq<|Q.rg<|?_
      by_cases q1:(bt s (i+1):Int)<128
      ·refine Q.mv U<|Q.mv U<|US.bz U (by decide) U U Tryz.underlying9 U U (by omega) (by omega) (c:=(bt s (i+1):Int)) (by rw[eX s (i+1) (by omega)];rfl)<|?_
       refine US.aG U (by decide) U U U U (r:=.bool true) (by(simp[fu,fB,q1];done))<|?_
       refine Q.mv U<|Q.of<|Q.of<|Q.of<|Q.of<|Q.pk U U<|Q.nt<|?_
       refine UW.cond U (λ_=>?_) (λh=>absurd h (by simp))
       refine Q.rg<|Q.as U<|Q.nt<|UW.ret<|UQ.aj<|UQ.az<|UQ.aj<|UQ.aj<|UQ.az<|UQ.aj<|?_
       refine bD [] (λ_=>au U U) (.refl _) λhd=>⟨?_,rfl⟩
       rw[hone,iY,bad (by unfold dA;rw[decide_eq_false (by omega:¬128<=bt s (i+1))];rfl)];rfl
      ·by_cases q2:(bt s (i+1):Int)>191
       ·refine Q.mv U<|Q.mv U<|US.bz U (by decide) U U Tryz.underlying9 U U (by omega) (by omega) (c:=(bt s (i+1):Int)) (by rw[eX s (i+1) (by omega)];rfl)<|?_
        refine US.aG U (by decide) U U U U (r:=.bool false) (by(simp[fu,fB,q1];done))<|?_
        refine Q.mv U<|?_
        (refine US.on U U (by decide) U ?_;refine US.move U (by decide) U U U ?_)
        (refine US.on U U (by decide) U ?_;refine US.move U (by decide) U U U ?_)
        (refine US.on U U (by decide) U ?_;refine US.bz U (by decide) U U Tryz.underlying9 U U (by omega) (by omega) (c:=(bt s (i+1):Int)) (by rw[eX s (i+1) (by omega)];rfl) ?_)
        (refine US.on U U (by decide) U ?_;refine US.aG U (by decide) U U U U (r:=.bool true) (by(simp[fu,fB,q2];done)) ?_)
        refine Q.pk U U<|Q.nt<|?_
        refine UW.cond U (λ_=>?_) (λh=>absurd h (by simp))
        refine Q.rg<|Q.as U<|Q.nt<|UW.ret<|UQ.aj<|UQ.az<|UQ.aj<|UQ.aj<|UQ.az<|UQ.aj<|?_
        refine bD [] (λ_=>au U U) (.refl _) λhd=>⟨?_,rfl⟩
        rw[hone,iY,bad (by unfold dA;rw[decide_eq_false (by omega:¬bt s (i+1)<=191),Bool.and_false])];rfl
       ·refine Q.mv U<|Q.mv U<|US.bz U (by decide) U U Tryz.underlying9 U U (by omega) (by omega) (c:=(bt s (i+1):Int)) (by rw[eX s (i+1) (by omega)];rfl)<|?_
        refine US.aG U (by decide) U U U U (r:=.bool false) (by(simp[fu,fB,q1];done))<|?_
        refine Q.mv U<|?_
        (refine US.on U U (by decide) U ?_;refine US.move U (by decide) U U U ?_)
        (refine US.on U U (by decide) U ?_;refine US.move U (by decide) U U U ?_)
        (refine US.on U U (by decide) U ?_;refine US.bz U (by decide) U U Tryz.underlying9 U U (by omega) (by omega) (c:=(bt s (i+1):Int)) (by rw[eX s (i+1) (by omega)];rfl) ?_)
        (refine US.on U U (by decide) U ?_;refine US.aG U (by decide) U U U U (r:=.bool false) (by(simp[fu,fB,q2];done)) ?_)
        refine Q.pk U U<|Q.nt<|UW.cond U (λh=>absurd h (by simp)) λ_=>?_
        have ht0:0<=(bt s (i+1):Int).tmod 64:=Int.tmod_nonneg _ (by omega)
        have ht1:(bt s (i+1):Int).tmod 64<64:=Int.tmod_lt_of_pos _ (by decide)
        refine UW.skip<|UQ.then<|UW.region<|Q.mv U<|US.mul U (by decide) U U U U (r:=64*iX s ((bt s 0:Int)) i) (IntWalk.i64_in _ (by omega))<|Q.mv U<|Q.mv U<|US.bz U (by decide) U U Tryz.underlying9 U U (by omega) (by omega) (c:=(bt s (i+1):Int)) (by rw[eX s (i+1) (by omega)];rfl)<|?_
        refine Q.bi U U U<|US.conv U (by decide) U U (by rw[Tryz.underlying5];rfl) Tryz.underlying3 U (r:=(bt s (i+1):Int).tmod 64) (IntWalk.i64_in _ (by omega))<|?_
        refine US.add U (by decide) U U U U (r:=iX s ((bt s 0:Int)) (i+1)) (IntWalk.i64_in _ (by omega))<|Q.as U<|US.nil<|UQ.aI<|UQ.then<|UW.region<|Q.mv U<|US.add U (by decide) U U U U (r:=((i+1+1:Nat):Int)) (IntWalk.i64_in _ (by omega))<|Q.as U<|?_
        exact US.round (a':=i+1) ⟨by omega,λj h3=>by
         by_cases hjk:j=i
         ·subst hjk;unfold dA;rw[decide_eq_true (by omega:128<=bt s (j+1)),decide_eq_true (by omega:bt s (j+1)<=191)];rfl
         ·exact hj j (by omega)⟩ (by omega) ⟨rfl,rfl,rfl,rfl,trivial⟩ (.refl _)
     ·have h:=of_decide_eq_false h
      have hin:i=0:=by omega
      subst hin
      have hall:(List.range 0).all (λi=>dA s (i+1))=true:=by
       rw[List.all_eq_true]
       exactλj hjm=>hj j (List.mem_range.1 hjm)
      have gH:fA s=if bY 0 (iX s ((bt s 0:Int)) 0) then(0:Int)+1 else 0:=by rw[hone,iY,hall];rfl
      clear hj
      generalize iX s ((bt s 0:Int)) 0=r at gH hb⊢
      refine UW.exit<|UQ.pass<|UQ.pass<|UQ.here<|UQ.then<|Q.rg<|US.tX U (by decide) U U K4 (by decide) U U U (by exact dx U)<|?_
      refine Q.mv U<|US.dN U (by decide) U U NJ U U (by omega) U U<|US.eZ U (by decide) U U U bC<|Q.as U<|Q.nt<|UW.seq<|Q.rg<|?_
      by_cases p1:r<0
      ·refine Q.mv U<|Q.mv U<|US.aG U (by decide) U U U U (r:=.bool true) (by(simp[fu,fB,p1];done))<|?_
       refine Q.mv U<|Q.of<|Q.of<|Q.of<|Q.ou<|Q.ou<|Q.of<|Q.pk U U<|Q.mv U<|Q.of<|Q.of<|Q.pk U U<|Q.nt<|?_
       refine UW.cond U (λ_=>?_) (λh=>absurd h (by simp))
       refine Q.rg<|Q.as U<|Q.nt<|UW.ret<|UQ.aj<|?_
       refine bD [] (λ_=>au U U) (.refl _) λhd=>⟨?_,rfl⟩
       rw[gH,show bY 0 r=false from by simp only[bY,Bool.and_eq_true,Bool.and_eq_false_iff,Bool.not_eq_true',Bool.not_eq_false',decide_eq_true_eq,decide_eq_false_iff_not];omega];rfl
      ·by_cases p2:r>=55296
       ·by_cases p3:r<=57343
        ·refine Q.mv U<|Q.mv U<|US.aG U (by decide) U U U U (r:=.bool false) (by(simp[fu,fB,p1];done))<|?_
         refine Q.mv U<|?_
         (refine US.on U U (by decide) U ?_;refine US.move U (by decide) U U U ?_)
         (refine US.on U U (by decide) U ?_;refine US.aG U (by decide) U U U U (r:=.bool true) (by(simp[fu,fB,p2];done)) ?_)
         (refine US.on U U (by decide) U ?_;refine US.move U (by decide) U U U ?_)
         (refine US.on U U (by decide) U ?_;refine US.move U (by decide) U U U ?_)
         (refine US.on U U (by decide) U ?_;refine US.aG U (by decide) U U U U (r:=.bool true) (by(simp[fu,fB,p3];done)) ?_)
         (refine US.on U U (by decide) U ?_;refine US.pick U (by decide) U U U U ?_)
         refine Q.pk U U<|Q.mv U<|Q.of<|Q.of<|Q.pk U U<|Q.nt<|?_
         refine UW.cond U (λ_=>?_) (λh=>absurd h (by simp))
         refine Q.rg<|Q.as U<|Q.nt<|UW.ret<|UQ.aj<|?_
         refine bD [] (λ_=>au U U) (.refl _) λhd=>⟨?_,rfl⟩
         rw[gH,show bY 0 r=false from by simp only[bY,Bool.and_eq_true,Bool.and_eq_false_iff,Bool.not_eq_true',Bool.not_eq_false',decide_eq_true_eq,decide_eq_false_iff_not];omega];rfl
        ·by_cases p4:r>1114111
         ·refine Q.mv U<|Q.mv U<|US.aG U (by decide) U U U U (r:=.bool false) (by(simp[fu,fB,p1];done))<|?_
          refine Q.mv U<|?_
          (refine US.on U U (by decide) U ?_;refine US.move U (by decide) U U U ?_)
          (refine US.on U U (by decide) U ?_;refine US.aG U (by decide) U U U U (r:=.bool true) (by(simp[fu,fB,p2];done)) ?_)
          (refine US.on U U (by decide) U ?_;refine US.move U (by decide) U U U ?_)
          (refine US.on U U (by decide) U ?_;refine US.move U (by decide) U U U ?_)
          (refine US.on U U (by decide) U ?_;refine US.aG U (by decide) U U U U (r:=.bool false) (by(simp[fu,fB,p3];done)) ?_)
          (refine US.on U U (by decide) U ?_;refine US.pick U (by decide) U U U U ?_)
          refine Q.pk U U<|Q.mv U<|?_
          (refine US.on U U (by decide) U ?_;refine US.move U (by decide) U U U ?_)
          (refine US.on U U (by decide) U ?_;refine US.aG U (by decide) U U U U (r:=.bool true) (by(simp[fu,fB,p4];done)) ?_)
          refine Q.pk U U<|Q.nt<|?_
          refine UW.cond U (λ_=>?_) (λh=>absurd h (by simp))
          refine Q.rg<|Q.as U<|Q.nt<|UW.ret<|UQ.aj<|?_
          refine bD [] (λ_=>au U U) (.refl _) λhd=>⟨?_,rfl⟩
          rw[gH,show bY 0 r=false from by simp only[bY,Bool.and_eq_true,Bool.and_eq_false_iff,Bool.not_eq_true',Bool.not_eq_false',decide_eq_true_eq,decide_eq_false_iff_not];omega];rfl
         ·refine Q.mv U<|Q.mv U<|US.aG U (by decide) U U U U (r:=.bool false) (by(simp[fu,fB,p1];done))<|?_
          refine Q.mv U<|?_
          (refine US.on U U (by decide) U ?_;refine US.move U (by decide) U U U ?_)
          (refine US.on U U (by decide) U ?_;refine US.aG U (by decide) U U U U (r:=.bool true) (by(simp[fu,fB,p2];done)) ?_)
          (refine US.on U U (by decide) U ?_;refine US.move U (by decide) U U U ?_)
          (refine US.on U U (by decide) U ?_;refine US.move U (by decide) U U U ?_)
          (refine US.on U U (by decide) U ?_;refine US.aG U (by decide) U U U U (r:=.bool false) (by(simp[fu,fB,p3];done)) ?_)
          (refine US.on U U (by decide) U ?_;refine US.pick U (by decide) U U U U ?_)
          refine Q.pk U U<|Q.mv U<|?_
          (refine US.on U U (by decide) U ?_;refine US.move U (by decide) U U U ?_)
          (refine US.on U U (by decide) U ?_;refine US.aG U (by decide) U U U U (r:=.bool false) (by(simp[fu,fB,p4];done)) ?_)
          refine Q.pk U U<|Q.nt<|UW.cond U (λh=>absurd h (by simp)) λ_=>?_
          refine UW.skip<|UQ.then<|Q.rg<|Q.mv U<|US.add U (by decide) U U U U (IntWalk.i64_in _ (by omega))<|Q.as U<|Q.nt<|UW.ret<|?_
          refine bD [] (λ_=>au U U) (.refl _) λhd=>⟨?_,rfl⟩
          rw[gH,show bY 0 r=true from by simp only[bY,Bool.and_eq_true,Bool.and_eq_false_iff,Bool.not_eq_true',Bool.not_eq_false',decide_eq_true_eq,decide_eq_false_iff_not];omega];rfl
       ·by_cases p4:r>1114111
        ·refine Q.mv U<|Q.mv U<|US.aG U (by decide) U U U U (r:=.bool false) (by(simp[fu,fB,p1];done))<|?_
         refine Q.mv U<|?_
         (refine US.on U U (by decide) U ?_;refine US.move U (by decide) U U U ?_)
         (refine US.on U U (by decide) U ?_;refine US.aG U (by decide) U U U U (r:=.bool false) (by(simp[fu,fB,p2];done)) ?_)
         (refine US.on U U (by decide) U ?_;refine US.move U (by decide) U U U ?_)
         refine Q.of<|Q.of<|?_
         (refine US.on U U (by decide) U ?_;refine US.pick U (by decide) U U U U ?_)
         refine Q.pk U U<|Q.mv U<|?_
         (refine US.on U U (by decide) U ?_;refine US.move U (by decide) U U U ?_)
         (refine US.on U U (by decide) U ?_;refine US.aG U (by decide) U U U U (r:=.bool true) (by(simp[fu,fB,p4];done)) ?_)
         refine Q.pk U U<|Q.nt<|?_
         refine UW.cond U (λ_=>?_) (λh=>absurd h (by simp))
         refine Q.rg<|Q.as U<|Q.nt<|UW.ret<|UQ.aj<|?_
         refine bD [] (λ_=>au U U) (.refl _) λhd=>⟨?_,rfl⟩
         rw[gH,show bY 0 r=false from by simp only[bY,Bool.and_eq_true,Bool.and_eq_false_iff,Bool.not_eq_true',Bool.not_eq_false',decide_eq_true_eq,decide_eq_false_iff_not];omega];rfl
        ·refine Q.mv U<|Q.mv U<|US.aG U (by decide) U U U U (r:=.bool false) (by(simp[fu,fB,p1];done))<|?_
         refine Q.mv U<|?_
         (refine US.on U U (by decide) U ?_;refine US.move U (by decide) U U U ?_)
         (refine US.on U U (by decide) U ?_;refine US.aG U (by decide) U U U U (r:=.bool false) (by(simp[fu,fB,p2];done)) ?_)
         (refine US.on U U (by decide) U ?_;refine US.move U (by decide) U U U ?_)
         refine Q.of<|Q.of<|?_
         (refine US.on U U (by decide) U ?_;refine US.pick U (by decide) U U U U ?_)
         refine Q.pk U U<|Q.mv U<|?_
         (refine US.on U U (by decide) U ?_;refine US.move U (by decide) U U U ?_)
         (refine US.on U U (by decide) U ?_;refine US.aG U (by decide) U U U U (r:=.bool false) (by(simp[fu,fB,p4];done)) ?_)
         refine Q.pk U U<|Q.nt<|UW.cond U (λh=>absurd h (by simp)) λ_=>?_
         refine UW.skip<|UQ.then<|Q.rg<|Q.mv U<|US.add U (by decide) U U U U (IntWalk.i64_in _ (by omega))<|Q.as U<|Q.nt<|UW.ret<|?_
         refine bD [] (λ_=>au U U) (.refl _) λhd=>⟨?_,rfl⟩
         rw[gH,show bY 0 r=true from by simp only[bY,Bool.and_eq_true,Bool.and_eq_false_iff,Bool.not_eq_true',Bool.not_eq_false',decide_eq_true_eq,decide_eq_false_iff_not];omega];rfl
    ·have hone:fA s=iY s 1 128 ((bt s 0:Int).tmod 32):=by
      unfold fA
      rw[if_neg h0,hm,if_neg (by omega),if_neg (by omega)];rfl
     have hr0:0<=(bt s 0:Int).tmod 32:=Int.tmod_nonneg _ (by omega)
     have hr1:(bt s 0:Int).tmod 32<32:=Int.tmod_lt_of_pos _ (by decide)
     refine Q.mv U<|Q.bi U U U<|Q.nt<|?_
     refine UW.cond U (λ_=>?_) (λh=>absurd h (by simp))
     refine UW.region<|Q.mv U<|Q.mv U<|US.conv U (by decide) U U (by rw[Tryz.underlying3];rfl) Tryz.underlying84 U (r:=1) (by rfl)<|?_
     refine US.rT U (by decide) U U U U (by omega) U<|US.aG U (by decide) U U U U (r:=.int .i64 ((bt s 0:Int).tmod 32)) U<|Q.as U<|Q.nt<|UW.seq<|Q.rg<|Q.as U<|Q.nt<|UW.block<|UW.loop (λi:Nat=>[(5,.v (.int .i64 ((i+1:Nat):Int))),(3,.v (.int .i64 1)),(4,.v (.int .i64 (iX s ((bt s 0:Int).tmod 32) i))),(0,.v (.string s))]) (λ_=>[]) (λi=>i<=1/\∀j,j<i->dA s (j+1)=true) (λi=>1-i) 0 ⟨Nat.zero_le _,λj h=>absurd h (by omega)⟩ ⟨rfl,rfl,rfl,rfl,trivial⟩ (.refl _)<|?_
     rintro i ⟨hi,hj⟩
     have hb:=zo s ((bt s 0:Int).tmod 32) (by omega) (by omega) i (by omega)
     refine UW.seq<|Q.rg<|Q.mv U<|Q.mv U<|Q.bi U U U<|Q.nt<|?_
     refine UW.cond U (λh=>?_) (λh=>?_)
     ·have h:=of_decide_eq_true h
      have hlt:i<1:=by omega
      have hbi:=kZ s (i+1)
      have bad:dA s (i+1)=false->(List.range 1).all (λi=>dA s (i+1))=false:=λhb=>by
       rw[List.all_eq_false]
       exact⟨i,List.mem_range.2 hlt,by simp[hb]⟩
      refine UW.skip<|UQ.then<|UW.seq<|UW.block<|UW.seq<|Q.rg<|?_
      by_cases q1:(bt s (i+1):Int)<128
      ·refine Q.mv U<|Q.mv U<|US.bz U (by decide) U U Tryz.underlying9 U U (by omega) (by omega) (c:=(bt s (i+1):Int)) (by rw[eX s (i+1) (by omega)];rfl)<|?_
       refine US.aG U (by decide) U U U U (r:=.bool true) (by(simp[fu,fB,q1];done))<|?_
       refine Q.mv U<|Q.of<|Q.of<|Q.of<|Q.of<|Q.pk U U<|Q.nt<|?_
       refine UW.cond U (λ_=>?_) (λh=>absurd h (by simp))
       refine Q.rg<|Q.as U<|Q.nt<|UW.ret<|UQ.aj<|UQ.az<|UQ.aj<|UQ.aj<|UQ.az<|UQ.aj<|?_
       refine bD [] (λ_=>au U U) (.refl _) λhd=>⟨?_,rfl⟩
       rw[hone,iY,bad (by unfold dA;rw[decide_eq_false (by omega:¬128<=bt s (i+1))];rfl)];rfl
      ·by_cases q2:(bt s (i+1):Int)>191
       ·refine Q.mv U<|Q.mv U<|US.bz U (by decide) U U Tryz.underlying9 U U (by omega) (by omega) (c:=(bt s (i+1):Int)) (by rw[eX s (i+1) (by omega)];rfl)<|?_
        refine US.aG U (by decide) U U U U (r:=.bool false) (by(simp[fu,fB,q1];done))<|?_
        refine Q.mv U<|?_
        (refine US.on U U (by decide) U ?_;refine US.move U (by decide) U U U ?_)
        (refine US.on U U (by decide) U ?_;refine US.move U (by decide) U U U ?_)
        (refine US.on U U (by decide) U ?_;refine US.bz U (by decide) U U Tryz.underlying9 U U (by omega) (by omega) (c:=(bt s (i+1):Int)) (by rw[eX s (i+1) (by omega)];rfl) ?_)
        (refine US.on U U (by decide) U ?_;refine US.aG U (by decide) U U U U (r:=.bool true) (by(simp[fu,fB,q2];done)) ?_)
        refine Q.pk U U<|Q.nt<|?_
        refine UW.cond U (λ_=>?_) (λh=>absurd h (by simp))
        refine Q.rg<|Q.as U<|Q.nt<|UW.ret<|UQ.aj<|UQ.az<|UQ.aj<|UQ.aj<|UQ.az<|UQ.aj<|?_
        refine bD [] (λ_=>au U U) (.refl _) λhd=>⟨?_,rfl⟩
        rw[hone,iY,bad (by unfold dA;rw[decide_eq_false (by omega:¬bt s (i+1)<=191),Bool.and_false])];rfl
       ·refine Q.mv U<|Q.mv U<|US.bz U (by decide) U U Tryz.underlying9 U U (by omega) (by omega) (c:=(bt s (i+1):Int)) (by rw[eX s (i+1) (by omega)];rfl)<|?_
        refine US.aG U (by decide) U U U U (r:=.bool false) (by(simp[fu,fB,q1];done))<|?_
        refine Q.mv U<|?_
        (refine US.on U U (by decide) U ?_;refine US.move U (by decide) U U U ?_)
        (refine US.on U U (by decide) U ?_;refine US.move U (by decide) U U U ?_)
        (refine US.on U U (by decide) U ?_;refine US.bz U (by decide) U U Tryz.underlying9 U U (by omega) (by omega) (c:=(bt s (i+1):Int)) (by rw[eX s (i+1) (by omega)];rfl) ?_)
        (refine US.on U U (by decide) U ?_;refine US.aG U (by decide) U U U U (r:=.bool false) (by(simp[fu,fB,q2];done)) ?_)
        refine Q.pk U U<|Q.nt<|UW.cond U (λh=>absurd h (by simp)) λ_=>?_
        have ht0:0<=(bt s (i+1):Int).tmod 64:=Int.tmod_nonneg _ (by omega)
        have ht1:(bt s (i+1):Int).tmod 64<64:=Int.tmod_lt_of_pos _ (by decide)
        refine UW.skip<|UQ.then<|UW.region<|Q.mv U<|US.mul U (by decide) U U U U (r:=64*iX s ((bt s 0:Int).tmod 32) i) (IntWalk.i64_in _ (by omega))<|Q.mv U<|Q.mv U<|US.bz U (by decide) U U Tryz.underlying9 U U (by omega) (by omega) (c:=(bt s (i+1):Int)) (by rw[eX s (i+1) (by omega)];rfl)<|?_
        refine Q.bi U U U<|US.conv U (by decide) U U (by rw[Tryz.underlying5];rfl) Tryz.underlying3 U (r:=(bt s (i+1):Int).tmod 64) (IntWalk.i64_in _ (by omega))<|?_
        refine US.add U (by decide) U U U U (r:=iX s ((bt s 0:Int).tmod 32) (i+1)) (IntWalk.i64_in _ (by omega))<|Q.as U<|US.nil<|UQ.aI<|UQ.then<|UW.region<|Q.mv U<|US.add U (by decide) U U U U (r:=((i+1+1:Nat):Int)) (IntWalk.i64_in _ (by omega))<|Q.as U<|?_
        exact US.round (a':=i+1) ⟨by omega,λj h3=>by
         by_cases hjk:j=i
         ·subst hjk;unfold dA;rw[decide_eq_true (by omega:128<=bt s (j+1)),decide_eq_true (by omega:bt s (j+1)<=191)];rfl
         ·exact hj j (by omega)⟩ (by omega) ⟨rfl,rfl,rfl,rfl,trivial⟩ (.refl _)
     ·have h:=of_decide_eq_false h
      have hin:i=1:=by omega
      subst hin
      have hall:(List.range 1).all (λi=>dA s (i+1))=true:=by
       rw[List.all_eq_true]
       exactλj hjm=>hj j (List.mem_range.1 hjm)
      have gH:fA s=if bY 128 (iX s ((bt s 0:Int).tmod 32) 1) then(1:Int)+1 else 0:=by rw[hone,iY,hall];rfl
      clear hj
      generalize iX s ((bt s 0:Int).tmod 32) 1=r at gH hb⊢
      refine UW.exit<|UQ.pass<|UQ.pass<|UQ.here<|UQ.then<|Q.rg<|US.tX U (by decide) U U K4 (by decide) U U U (by exact dx U)<|?_
      refine Q.mv U<|US.dN U (by decide) U U NJ U U (by omega) U U<|US.eZ U (by decide) U U U bC<|Q.as U<|Q.nt<|UW.seq<|Q.rg<|?_
      by_cases p1:r<128
      ·refine Q.mv U<|Q.mv U<|US.aG U (by decide) U U U U (r:=.bool true) (by(simp[fu,fB,p1];done))<|?_
       refine Q.mv U<|Q.of<|Q.of<|Q.of<|Q.ou<|Q.ou<|Q.of<|Q.pk U U<|Q.mv U<|Q.of<|Q.of<|Q.pk U U<|Q.nt<|?_
       refine UW.cond U (λ_=>?_) (λh=>absurd h (by simp))
       refine Q.rg<|Q.as U<|Q.nt<|UW.ret<|UQ.aj<|?_
       refine bD [] (λ_=>au U U) (.refl _) λhd=>⟨?_,rfl⟩
       rw[gH,show bY 128 r=false from by simp only[bY,Bool.and_eq_true,Bool.and_eq_false_iff,Bool.not_eq_true',Bool.not_eq_false',decide_eq_true_eq,decide_eq_false_iff_not];omega];rfl
      ·by_cases p2:r>=55296
       ·by_cases p3:r<=57343
        ·refine Q.mv U<|Q.mv U<|US.aG U (by decide) U U U U (r:=.bool false) (by(simp[fu,fB,p1];done))<|?_
         refine Q.mv U<|?_
         (refine US.on U U (by decide) U ?_;refine US.move U (by decide) U U U ?_)
         (refine US.on U U (by decide) U ?_;refine US.aG U (by decide) U U U U (r:=.bool true) (by(simp[fu,fB,p2];done)) ?_)
         (refine US.on U U (by decide) U ?_;refine US.move U (by decide) U U U ?_)
         (refine US.on U U (by decide) U ?_;refine US.move U (by decide) U U U ?_)
         (refine US.on U U (by decide) U ?_;refine US.aG U (by decide) U U U U (r:=.bool true) (by(simp[fu,fB,p3];done)) ?_)
         (refine US.on U U (by decide) U ?_;refine US.pick U (by decide) U U U U ?_)
         refine Q.pk U U<|Q.mv U<|Q.of<|Q.of<|Q.pk U U<|Q.nt<|?_
         refine UW.cond U (λ_=>?_) (λh=>absurd h (by simp))
         refine Q.rg<|Q.as U<|Q.nt<|UW.ret<|UQ.aj<|?_
         refine bD [] (λ_=>au U U) (.refl _) λhd=>⟨?_,rfl⟩
         rw[gH,show bY 128 r=false from by simp only[bY,Bool.and_eq_true,Bool.and_eq_false_iff,Bool.not_eq_true',Bool.not_eq_false',decide_eq_true_eq,decide_eq_false_iff_not];omega];rfl
        ·by_cases p4:r>1114111
         ·refine Q.mv U<|Q.mv U<|US.aG U (by decide) U U U U (r:=.bool false) (by(simp[fu,fB,p1];done))<|?_
          refine Q.mv U<|?_
          (refine US.on U U (by decide) U ?_;refine US.move U (by decide) U U U ?_)
          (refine US.on U U (by decide) U ?_;refine US.aG U (by decide) U U U U (r:=.bool true) (by(simp[fu,fB,p2];done)) ?_)
          (refine US.on U U (by decide) U ?_;refine US.move U (by decide) U U U ?_)
          (refine US.on U U (by decide) U ?_;refine US.move U (by decide) U U U ?_)
          (refine US.on U U (by decide) U ?_;refine US.aG U (by decide) U U U U (r:=.bool false) (by(simp[fu,fB,p3];done)) ?_)
          (refine US.on U U (by decide) U ?_;refine US.pick U (by decide) U U U U ?_)
          refine Q.pk U U<|Q.mv U<|?_
          (refine US.on U U (by decide) U ?_;refine US.move U (by decide) U U U ?_)
          (refine US.on U U (by decide) U ?_;refine US.aG U (by decide) U U U U (r:=.bool true) (by(simp[fu,fB,p4];done)) ?_)
          refine Q.pk U U<|Q.nt<|?_
          refine UW.cond U (λ_=>?_) (λh=>absurd h (by simp))
          refine Q.rg<|Q.as U<|Q.nt<|UW.ret<|UQ.aj<|?_
          refine bD [] (λ_=>au U U) (.refl _) λhd=>⟨?_,rfl⟩
          rw[gH,show bY 128 r=false from by simp only[bY,Bool.and_eq_true,Bool.and_eq_false_iff,Bool.not_eq_true',Bool.not_eq_false',decide_eq_true_eq,decide_eq_false_iff_not];omega];rfl
         ·refine Q.mv U<|Q.mv U<|US.aG U (by decide) U U U U (r:=.bool false) (by(simp[fu,fB,p1];done))<|?_
          refine Q.mv U<|?_
          (refine US.on U U (by decide) U ?_;refine US.move U (by decide) U U U ?_)
          (refine US.on U U (by decide) U ?_;refine US.aG U (by decide) U U U U (r:=.bool true) (by(simp[fu,fB,p2];done)) ?_)
          (refine US.on U U (by decide) U ?_;refine US.move U (by decide) U U U ?_)
          (refine US.on U U (by decide) U ?_;refine US.move U (by decide) U U U ?_)
          (refine US.on U U (by decide) U ?_;refine US.aG U (by decide) U U U U (r:=.bool false) (by(simp[fu,fB,p3];done)) ?_)
          (refine US.on U U (by decide) U ?_;refine US.pick U (by decide) U U U U ?_)
          refine Q.pk U U<|Q.mv U<|?_
          (refine US.on U U (by decide) U ?_;refine US.move U (by decide) U U U ?_)
          (refine US.on U U (by decide) U ?_;refine US.aG U (by decide) U U U U (r:=.bool false) (by(simp[fu,fB,p4];done)) ?_)
          refine Q.pk U U<|Q.nt<|UW.cond U (λh=>absurd h (by simp)) λ_=>?_
          refine UW.skip<|UQ.then<|Q.rg<|Q.mv U<|US.add U (by decide) U U U U (IntWalk.i64_in _ (by omega))<|Q.as U<|Q.nt<|UW.ret<|?_
          refine bD [] (λ_=>au U U) (.refl _) λhd=>⟨?_,rfl⟩
          rw[gH,show bY 128 r=true from by simp only[bY,Bool.and_eq_true,Bool.and_eq_false_iff,Bool.not_eq_true',Bool.not_eq_false',decide_eq_true_eq,decide_eq_false_iff_not];omega];rfl
       ·by_cases p4:r>1114111
        ·refine Q.mv U<|Q.mv U<|US.aG U (by decide) U U U U (r:=.bool false) (by(simp[fu,fB,p1];done))<|?_
         refine Q.mv U<|?_
         (refine US.on U U (by decide) U ?_;refine US.move U (by decide) U U U ?_)
         (refine US.on U U (by decide) U ?_;refine US.aG U (by decide) U U U U (r:=.bool false) (by(simp[fu,fB,p2];done)) ?_)
         (refine US.on U U (by decide) U ?_;refine US.move U (by decide) U U U ?_)
         refine Q.of<|Q.of<|?_
         (refine US.on U U (by decide) U ?_;refine US.pick U (by decide) U U U U ?_)
         refine Q.pk U U<|Q.mv U<|?_
         (refine US.on U U (by decide) U ?_;refine US.move U (by decide) U U U ?_)
         (refine US.on U U (by decide) U ?_;refine US.aG U (by decide) U U U U (r:=.bool true) (by(simp[fu,fB,p4];done)) ?_)
         refine Q.pk U U<|Q.nt<|?_
         refine UW.cond U (λ_=>?_) (λh=>absurd h (by simp))
         refine Q.rg<|Q.as U<|Q.nt<|UW.ret<|UQ.aj<|?_
         refine bD [] (λ_=>au U U) (.refl _) λhd=>⟨?_,rfl⟩
         rw[gH,show bY 128 r=false from by simp only[bY,Bool.and_eq_true,Bool.and_eq_false_iff,Bool.not_eq_true',Bool.not_eq_false',decide_eq_true_eq,decide_eq_false_iff_not];omega];rfl
        ·refine Q.mv U<|Q.mv U<|US.aG U (by decide) U U U U (r:=.bool false) (by(simp[fu,fB,p1];done))<|?_
         refine Q.mv U<|?_
         (refine US.on U U (by decide) U ?_;refine US.move U (by decide) U U U ?_)
         (refine US.on U U (by decide) U ?_;refine US.aG U (by decide) U U U U (r:=.bool false) (by(simp[fu,fB,p2];done)) ?_)
         (refine US.on U U (by decide) U ?_;refine US.move U (by decide) U U U ?_)
         refine Q.of<|Q.of<|?_
         (refine US.on U U (by decide) U ?_;refine US.pick U (by decide) U U U U ?_)
         refine Q.pk U U<|Q.mv U<|?_
         (refine US.on U U (by decide) U ?_;refine US.move U (by decide) U U U ?_)
         (refine US.on U U (by decide) U ?_;refine US.aG U (by decide) U U U U (r:=.bool false) (by(simp[fu,fB,p4];done)) ?_)
         refine Q.pk U U<|Q.nt<|UW.cond U (λh=>absurd h (by simp)) λ_=>?_
         refine UW.skip<|UQ.then<|Q.rg<|Q.mv U<|US.add U (by decide) U U U U (IntWalk.i64_in _ (by omega))<|Q.as U<|Q.nt<|UW.ret<|?_
         refine bD [] (λ_=>au U U) (.refl _) λhd=>⟨?_,rfl⟩
         rw[gH,show bY 128 r=true from by simp only[bY,Bool.and_eq_true,Bool.and_eq_false_iff,Bool.not_eq_true',Bool.not_eq_false',decide_eq_true_eq,decide_eq_false_iff_not];omega];rfl
    ·have hone:fA s=iY s 2 2048 ((bt s 0:Int).tmod 16):=by
      unfold fA
      rw[if_neg h0,hm,if_neg (by omega),if_neg (by omega)];rfl
     have hr0:0<=(bt s 0:Int).tmod 16:=Int.tmod_nonneg _ (by omega)
     have hr1:(bt s 0:Int).tmod 16<16:=Int.tmod_lt_of_pos _ (by decide)
     refine Q.mv U<|Q.bi U U U<|Q.nt<|?_
     refine UW.cond U (λ_=>?_) (λh=>absurd h (by simp))
     refine UW.region<|Q.mv U<|Q.mv U<|US.conv U (by decide) U U (by rw[Tryz.underlying3];rfl) Tryz.underlying84 U (r:=2) (by rfl)<|?_
     refine US.rT U (by decide) U U U U (by omega) U<|US.aG U (by decide) U U U U (r:=.int .i64 ((bt s 0:Int).tmod 16)) U<|Q.as U<|Q.nt<|UW.seq<|Q.rg<|Q.as U<|Q.nt<|UW.block<|UW.loop (λi:Nat=>[(5,.v (.int .i64 ((i+1:Nat):Int))),(3,.v (.int .i64 2)),(4,.v (.int .i64 (iX s ((bt s 0:Int).tmod 16) i))),(0,.v (.string s))]) (λ_=>[]) (λi=>i<=2/\∀j,j<i->dA s (j+1)=true) (λi=>2-i) 0 ⟨Nat.zero_le _,λj h=>absurd h (by omega)⟩ ⟨rfl,rfl,rfl,rfl,trivial⟩ (.refl _)<|?_
     rintro i ⟨hi,hj⟩
     have hb:=zo s ((bt s 0:Int).tmod 16) (by omega) (by omega) i (by omega)
     refine UW.seq<|Q.rg<|Q.mv U<|Q.mv U<|Q.bi U U U<|Q.nt<|?_
     refine UW.cond U (λh=>?_) (λh=>?_)
     ·have h:=of_decide_eq_true h
      have hlt:i<2:=by omega
      have hbi:=kZ s (i+1)
      have bad:dA s (i+1)=false->(List.range 2).all (λi=>dA s (i+1))=false:=λhb=>by
       rw[List.all_eq_false]
       exact⟨i,List.mem_range.2 hlt,by simp[hb]⟩
      refine UW.skip<|UQ.then<|UW.seq<|UW.block<|UW.seq<|Q.rg<|?_
      by_cases q1:(bt s (i+1):Int)<128
      ·refine Q.mv U<|Q.mv U<|US.bz U (by decide) U U Tryz.underlying9 U U (by omega) (by omega) (c:=(bt s (i+1):Int)) (by rw[eX s (i+1) (by omega)];rfl)<|?_
       refine US.aG U (by decide) U U U U (r:=.bool true) (by(simp[fu,fB,q1];done))<|?_
       refine Q.mv U<|Q.of<|Q.of<|Q.of<|Q.of<|Q.pk U U<|Q.nt<|?_
       refine UW.cond U (λ_=>?_) (λh=>absurd h (by simp))
       refine Q.rg<|Q.as U<|Q.nt<|UW.ret<|UQ.aj<|UQ.az<|UQ.aj<|UQ.aj<|UQ.az<|UQ.aj<|?_
       refine bD [] (λ_=>au U U) (.refl _) λhd=>⟨?_,rfl⟩
       rw[hone,iY,bad (by unfold dA;rw[decide_eq_false (by omega:¬128<=bt s (i+1))];rfl)];rfl
      ·by_cases q2:(bt s (i+1):Int)>191
       ·refine Q.mv U<|Q.mv U<|US.bz U (by decide) U U Tryz.underlying9 U U (by omega) (by omega) (c:=(bt s (i+1):Int)) (by rw[eX s (i+1) (by omega)];rfl)<|?_
        refine US.aG U (by decide) U U U U (r:=.bool false) (by(simp[fu,fB,q1];done))<|?_
        refine Q.mv U<|?_
        (refine US.on U U (by decide) U ?_;refine US.move U (by decide) U U U ?_)
        (refine US.on U U (by decide) U ?_;refine US.move U (by decide) U U U ?_)
        (refine US.on U U (by decide) U ?_;refine US.bz U (by decide) U U Tryz.underlying9 U U (by omega) (by omega) (c:=(bt s (i+1):Int)) (by rw[eX s (i+1) (by omega)];rfl) ?_)
        (refine US.on U U (by decide) U ?_;refine US.aG U (by decide) U U U U (r:=.bool true) (by(simp[fu,fB,q2];done)) ?_)
        refine Q.pk U U<|Q.nt<|?_
        refine UW.cond U (λ_=>?_) (λh=>absurd h (by simp))
        refine Q.rg<|Q.as U<|Q.nt<|UW.ret<|UQ.aj<|UQ.az<|UQ.aj<|UQ.aj<|UQ.az<|UQ.aj<|?_
        refine bD [] (λ_=>au U U) (.refl _) λhd=>⟨?_,rfl⟩
        rw[hone,iY,bad (by unfold dA;rw[decide_eq_false (by omega:¬bt s (i+1)<=191),Bool.and_false])];rfl
       ·refine Q.mv U<|Q.mv U<|US.bz U (by decide) U U Tryz.underlying9 U U (by omega) (by omega) (c:=(bt s (i+1):Int)) (by rw[eX s (i+1) (by omega)];rfl)<|?_
        refine US.aG U (by decide) U U U U (r:=.bool false) (by(simp[fu,fB,q1];done))<|?_
        refine Q.mv U<|?_
        (refine US.on U U (by decide) U ?_;refine US.move U (by decide) U U U ?_)
        (refine US.on U U (by decide) U ?_;refine US.move U (by decide) U U U ?_)
        (refine US.on U U (by decide) U ?_;refine US.bz U (by decide) U U Tryz.underlying9 U U (by omega) (by omega) (c:=(bt s (i+1):Int)) (by rw[eX s (i+1) (by omega)];rfl) ?_)
        (refine US.on U U (by decide) U ?_;refine US.aG U (by decide) U U U U (r:=.bool false) (by(simp[fu,fB,q2];done)) ?_)
        refine Q.pk U U<|Q.nt<|UW.cond U (λh=>absurd h (by simp)) λ_=>?_
        have ht0:0<=(bt s (i+1):Int).tmod 64:=Int.tmod_nonneg _ (by omega)
        have ht1:(bt s (i+1):Int).tmod 64<64:=Int.tmod_lt_of_pos _ (by decide)
        refine UW.skip<|UQ.then<|UW.region<|Q.mv U<|US.mul U (by decide) U U U U (r:=64*iX s ((bt s 0:Int).tmod 16) i) (IntWalk.i64_in _ (by omega))<|Q.mv U<|Q.mv U<|US.bz U (by decide) U U Tryz.underlying9 U U (by omega) (by omega) (c:=(bt s (i+1):Int)) (by rw[eX s (i+1) (by omega)];rfl)<|?_
        refine Q.bi U U U<|US.conv U (by decide) U U (by rw[Tryz.underlying5];rfl) Tryz.underlying3 U (r:=(bt s (i+1):Int).tmod 64) (IntWalk.i64_in _ (by omega))<|?_
        refine US.add U (by decide) U U U U (r:=iX s ((bt s 0:Int).tmod 16) (i+1)) (IntWalk.i64_in _ (by omega))<|Q.as U<|US.nil<|UQ.aI<|UQ.then<|UW.region<|Q.mv U<|US.add U (by decide) U U U U (r:=((i+1+1:Nat):Int)) (IntWalk.i64_in _ (by omega))<|Q.as U<|?_
        exact US.round (a':=i+1) ⟨by omega,λj h3=>by
         by_cases hjk:j=i
         ·subst hjk;unfold dA;rw[decide_eq_true (by omega:128<=bt s (j+1)),decide_eq_true (by omega:bt s (j+1)<=191)];rfl
         ·exact hj j (by omega)⟩ (by omega) ⟨rfl,rfl,rfl,rfl,trivial⟩ (.refl _)
     ·have h:=of_decide_eq_false h
      have hin:i=2:=by omega
      subst hin
      have hall:(List.range 2).all (λi=>dA s (i+1))=true:=by
       rw[List.all_eq_true]
       exactλj hjm=>hj j (List.mem_range.1 hjm)
      have gH:fA s=if bY 2048 (iX s ((bt s 0:Int).tmod 16) 2) then(2:Int)+1 else 0:=by rw[hone,iY,hall];rfl
      clear hj
      generalize iX s ((bt s 0:Int).tmod 16) 2=r at gH hb⊢
      refine UW.exit<|UQ.pass<|UQ.pass<|UQ.here<|UQ.then<|Q.rg<|US.tX U (by decide) U U K4 (by decide) U U U (by exact dx U)<|?_
      refine Q.mv U<|US.dN U (by decide) U U NJ U U (by omega) U U<|US.eZ U (by decide) U U U bC<|Q.as U<|Q.nt<|UW.seq<|Q.rg<|?_
      by_cases p1:r<2048
      ·refine Q.mv U<|Q.mv U<|US.aG U (by decide) U U U U (r:=.bool true) (by(simp[fu,fB,p1];done))<|?_
       refine Q.mv U<|Q.of<|Q.of<|Q.of<|Q.ou<|Q.ou<|Q.of<|Q.pk U U<|Q.mv U<|Q.of<|Q.of<|Q.pk U U<|Q.nt<|?_
       refine UW.cond U (λ_=>?_) (λh=>absurd h (by simp))
       refine Q.rg<|Q.as U<|Q.nt<|UW.ret<|UQ.aj<|?_
       refine bD [] (λ_=>au U U) (.refl _) λhd=>⟨?_,rfl⟩
       rw[gH,show bY 2048 r=false from by simp only[bY,Bool.and_eq_true,Bool.and_eq_false_iff,Bool.not_eq_true',Bool.not_eq_false',decide_eq_true_eq,decide_eq_false_iff_not];omega];rfl
      ·by_cases p2:r>=55296
       ·by_cases p3:r<=57343
        ·refine Q.mv U<|Q.mv U<|US.aG U (by decide) U U U U (r:=.bool false) (by(simp[fu,fB,p1];done))<|?_
         refine Q.mv U<|?_
         (refine US.on U U (by decide) U ?_;refine US.move U (by decide) U U U ?_)
         (refine US.on U U (by decide) U ?_;refine US.aG U (by decide) U U U U (r:=.bool true) (by(simp[fu,fB,p2];done)) ?_)
         (refine US.on U U (by decide) U ?_;refine US.move U (by decide) U U U ?_)
         (refine US.on U U (by decide) U ?_;refine US.move U (by decide) U U U ?_)
         (refine US.on U U (by decide) U ?_;refine US.aG U (by decide) U U U U (r:=.bool true) (by(simp[fu,fB,p3];done)) ?_)
         (refine US.on U U (by decide) U ?_;refine US.pick U (by decide) U U U U ?_)
         refine Q.pk U U<|Q.mv U<|Q.of<|Q.of<|Q.pk U U<|Q.nt<|?_
         refine UW.cond U (λ_=>?_) (λh=>absurd h (by simp))
         refine Q.rg<|Q.as U<|Q.nt<|UW.ret<|UQ.aj<|?_
         refine bD [] (λ_=>au U U) (.refl _) λhd=>⟨?_,rfl⟩
         rw[gH,show bY 2048 r=false from by simp only[bY,Bool.and_eq_true,Bool.and_eq_false_iff,Bool.not_eq_true',Bool.not_eq_false',decide_eq_true_eq,decide_eq_false_iff_not];omega];rfl
        ·by_cases p4:r>1114111
         ·refine Q.mv U<|Q.mv U<|US.aG U (by decide) U U U U (r:=.bool false) (by(simp[fu,fB,p1];done))<|?_
          refine Q.mv U<|?_
          (refine US.on U U (by decide) U ?_;refine US.move U (by decide) U U U ?_)
          (refine US.on U U (by decide) U ?_;refine US.aG U (by decide) U U U U (r:=.bool true) (by(simp[fu,fB,p2];done)) ?_)
          (refine US.on U U (by decide) U ?_;refine US.move U (by decide) U U U ?_)
          (refine US.on U U (by decide) U ?_;refine US.move U (by decide) U U U ?_)
          (refine US.on U U (by decide) U ?_;refine US.aG U (by decide) U U U U (r:=.bool false) (by(simp[fu,fB,p3];done)) ?_)
          (refine US.on U U (by decide) U ?_;refine US.pick U (by decide) U U U U ?_)
          refine Q.pk U U<|Q.mv U<|?_
          (refine US.on U U (by decide) U ?_;refine US.move U (by decide) U U U ?_)
          (refine US.on U U (by decide) U ?_;refine US.aG U (by decide) U U U U (r:=.bool true) (by(simp[fu,fB,p4];done)) ?_)
          refine Q.pk U U<|Q.nt<|?_
          refine UW.cond U (λ_=>?_) (λh=>absurd h (by simp))
          refine Q.rg<|Q.as U<|Q.nt<|UW.ret<|UQ.aj<|?_
          refine bD [] (λ_=>au U U) (.refl _) λhd=>⟨?_,rfl⟩
          rw[gH,show bY 2048 r=false from by simp only[bY,Bool.and_eq_true,Bool.and_eq_false_iff,Bool.not_eq_true',Bool.not_eq_false',decide_eq_true_eq,decide_eq_false_iff_not];omega];rfl
         ·refine Q.mv U<|Q.mv U<|US.aG U (by decide) U U U U (r:=.bool false) (by(simp[fu,fB,p1];done))<|?_
          refine Q.mv U<|?_
          (refine US.on U U (by decide) U ?_;refine US.move U (by decide) U U U ?_)
          (refine US.on U U (by decide) U ?_;refine US.aG U (by decide) U U U U (r:=.bool true) (by(simp[fu,fB,p2];done)) ?_)
          (refine US.on U U (by decide) U ?_;refine US.move U (by decide) U U U ?_)
          (refine US.on U U (by decide) U ?_;refine US.move U (by decide) U U U ?_)
          (refine US.on U U (by decide) U ?_;refine US.aG U (by decide) U U U U (r:=.bool false) (by(simp[fu,fB,p3];done)) ?_)
          (refine US.on U U (by decide) U ?_;refine US.pick U (by decide) U U U U ?_)
          refine Q.pk U U<|Q.mv U<|?_
          (refine US.on U U (by decide) U ?_;refine US.move U (by decide) U U U ?_)
          (refine US.on U U (by decide) U ?_;refine US.aG U (by decide) U U U U (r:=.bool false) (by(simp[fu,fB,p4];done)) ?_)
          refine Q.pk U U<|Q.nt<|UW.cond U (λh=>absurd h (by simp)) λ_=>?_
          refine UW.skip<|UQ.then<|Q.rg<|Q.mv U<|US.add U (by decide) U U U U (IntWalk.i64_in _ (by omega))<|Q.as U<|Q.nt<|UW.ret<|?_
          refine bD [] (λ_=>au U U) (.refl _) λhd=>⟨?_,rfl⟩
          rw[gH,show bY 2048 r=true from by simp only[bY,Bool.and_eq_true,Bool.and_eq_false_iff,Bool.not_eq_true',Bool.not_eq_false',decide_eq_true_eq,decide_eq_false_iff_not];omega];rfl
       ·by_cases p4:r>1114111
        ·refine Q.mv U<|Q.mv U<|US.aG U (by decide) U U U U (r:=.bool false) (by(simp[fu,fB,p1];done))<|?_
         refine Q.mv U<|?_
         (refine US.on U U (by decide) U ?_;refine US.move U (by decide) U U U ?_)
         (refine US.on U U (by decide) U ?_;refine US.aG U (by decide) U U U U (r:=.bool false) (by(simp[fu,fB,p2];done)) ?_)
         (refine US.on U U (by decide) U ?_;refine US.move U (by decide) U U U ?_)
         refine Q.of<|Q.of<|?_
         (refine US.on U U (by decide) U ?_;refine US.pick U (by decide) U U U U ?_)
         refine Q.pk U U<|Q.mv U<|?_
         (refine US.on U U (by decide) U ?_;refine US.move U (by decide) U U U ?_)
         (refine US.on U U (by decide) U ?_;refine US.aG U (by decide) U U U U (r:=.bool true) (by(simp[fu,fB,p4];done)) ?_)
         refine Q.pk U U<|Q.nt<|?_
         refine UW.cond U (λ_=>?_) (λh=>absurd h (by simp))
         refine Q.rg<|Q.as U<|Q.nt<|UW.ret<|UQ.aj<|?_
         refine bD [] (λ_=>au U U) (.refl _) λhd=>⟨?_,rfl⟩
         rw[gH,show bY 2048 r=false from by simp only[bY,Bool.and_eq_true,Bool.and_eq_false_iff,Bool.not_eq_true',Bool.not_eq_false',decide_eq_true_eq,decide_eq_false_iff_not];omega];rfl
        ·refine Q.mv U<|Q.mv U<|US.aG U (by decide) U U U U (r:=.bool false) (by(simp[fu,fB,p1];done))<|?_
         refine Q.mv U<|?_
         (refine US.on U U (by decide) U ?_;refine US.move U (by decide) U U U ?_)
         (refine US.on U U (by decide) U ?_;refine US.aG U (by decide) U U U U (r:=.bool false) (by(simp[fu,fB,p2];done)) ?_)
         (refine US.on U U (by decide) U ?_;refine US.move U (by decide) U U U ?_)
         refine Q.of<|Q.of<|?_
         (refine US.on U U (by decide) U ?_;refine US.pick U (by decide) U U U U ?_)
         refine Q.pk U U<|Q.mv U<|?_
         (refine US.on U U (by decide) U ?_;refine US.move U (by decide) U U U ?_)
         (refine US.on U U (by decide) U ?_;refine US.aG U (by decide) U U U U (r:=.bool false) (by(simp[fu,fB,p4];done)) ?_)
         refine Q.pk U U<|Q.nt<|UW.cond U (λh=>absurd h (by simp)) λ_=>?_
         refine UW.skip<|UQ.then<|Q.rg<|Q.mv U<|US.add U (by decide) U U U U (IntWalk.i64_in _ (by omega))<|Q.as U<|Q.nt<|UW.ret<|?_
         refine bD [] (λ_=>au U U) (.refl _) λhd=>⟨?_,rfl⟩
         rw[gH,show bY 2048 r=true from by simp only[bY,Bool.and_eq_true,Bool.and_eq_false_iff,Bool.not_eq_true',Bool.not_eq_false',decide_eq_true_eq,decide_eq_false_iff_not];omega];rfl
    ·have hone:fA s=iY s 3 65536 ((bt s 0:Int).tmod 8):=by
      unfold fA
      rw[if_neg h0,hm,if_neg (by omega),if_neg (by omega)];rfl
     have hr0:0<=(bt s 0:Int).tmod 8:=Int.tmod_nonneg _ (by omega)
     have hr1:(bt s 0:Int).tmod 8<8:=Int.tmod_lt_of_pos _ (by decide)
     refine Q.mv U<|Q.bi U U U<|Q.nt<|?_
     refine UW.cond U (λ_=>?_) (λh=>absurd h (by simp))
     refine UW.region<|Q.mv U<|Q.mv U<|US.conv U (by decide) U U (by rw[Tryz.underlying3];rfl) Tryz.underlying84 U (r:=3) (by rfl)<|?_
     refine US.rT U (by decide) U U U U (by omega) U<|US.aG U (by decide) U U U U (r:=.int .i64 ((bt s 0:Int).tmod 8)) U<|Q.as U<|Q.nt<|UW.seq<|Q.rg<|Q.as U<|Q.nt<|UW.block<|UW.loop (λi:Nat=>[(5,.v (.int .i64 ((i+1:Nat):Int))),(3,.v (.int .i64 3)),(4,.v (.int .i64 (iX s ((bt s 0:Int).tmod 8) i))),(0,.v (.string s))]) (λ_=>[]) (λi=>i<=3/\∀j,j<i->dA s (j+1)=true) (λi=>3-i) 0 ⟨Nat.zero_le _,λj h=>absurd h (by omega)⟩ ⟨rfl,rfl,rfl,rfl,trivial⟩ (.refl _)<|?_
     rintro i ⟨hi,hj⟩
     have hb:=zo s ((bt s 0:Int).tmod 8) (by omega) (by omega) i (by omega)
     refine UW.seq<|Q.rg<|Q.mv U<|Q.mv U<|Q.bi U U U<|Q.nt<|?_
     refine UW.cond U (λh=>?_) (λh=>?_)
     ·have h:=of_decide_eq_true h
      have hlt:i<3:=by omega
      have hbi:=kZ s (i+1)
      have bad:dA s (i+1)=false->(List.range 3).all (λi=>dA s (i+1))=false:=λhb=>by
       rw[List.all_eq_false]
       exact⟨i,List.mem_range.2 hlt,by simp[hb]⟩
      refine UW.skip<|UQ.then<|UW.seq<|UW.block<|UW.seq<|Q.rg<|?_
      by_cases q1:(bt s (i+1):Int)<128
      ·refine Q.mv U<|Q.mv U<|US.bz U (by decide) U U Tryz.underlying9 U U (by omega) (by omega) (c:=(bt s (i+1):Int)) (by rw[eX s (i+1) (by omega)];rfl)<|?_
       refine US.aG U (by decide) U U U U (r:=.bool true) (by(simp[fu,fB,q1];done))<|?_
       refine Q.mv U<|Q.of<|Q.of<|Q.of<|Q.of<|Q.pk U U<|Q.nt<|?_
       refine UW.cond U (λ_=>?_) (λh=>absurd h (by simp))
       refine Q.rg<|Q.as U<|Q.nt<|UW.ret<|UQ.aj<|UQ.az<|UQ.aj<|UQ.aj<|UQ.az<|UQ.aj<|?_
       refine bD [] (λ_=>au U U) (.refl _) λhd=>⟨?_,rfl⟩
       rw[hone,iY,bad (by unfold dA;rw[decide_eq_false (by omega:¬128<=bt s (i+1))];rfl)];rfl
      ·by_cases q2:(bt s (i+1):Int)>191
       ·refine Q.mv U<|Q.mv U<|US.bz U (by decide) U U Tryz.underlying9 U U (by omega) (by omega) (c:=(bt s (i+1):Int)) (by rw[eX s (i+1) (by omega)];rfl)<|?_
        refine US.aG U (by decide) U U U U (r:=.bool false) (by(simp[fu,fB,q1];done))<|?_
        refine Q.mv U<|?_
        (refine US.on U U (by decide) U ?_;refine US.move U (by decide) U U U ?_)
        (refine US.on U U (by decide) U ?_;refine US.move U (by decide) U U U ?_)
        (refine US.on U U (by decide) U ?_;refine US.bz U (by decide) U U Tryz.underlying9 U U (by omega) (by omega) (c:=(bt s (i+1):Int)) (by rw[eX s (i+1) (by omega)];rfl) ?_)
        (refine US.on U U (by decide) U ?_;refine US.aG U (by decide) U U U U (r:=.bool true) (by(simp[fu,fB,q2];done)) ?_)
        refine Q.pk U U<|Q.nt<|?_
        refine UW.cond U (λ_=>?_) (λh=>absurd h (by simp))
        refine Q.rg<|Q.as U<|Q.nt<|UW.ret<|UQ.aj<|UQ.az<|UQ.aj<|UQ.aj<|UQ.az<|UQ.aj<|?_
        refine bD [] (λ_=>au U U) (.refl _) λhd=>⟨?_,rfl⟩
        rw[hone,iY,bad (by unfold dA;rw[decide_eq_false (by omega:¬bt s (i+1)<=191),Bool.and_false])];rfl
       ·refine Q.mv U<|Q.mv U<|US.bz U (by decide) U U Tryz.underlying9 U U (by omega) (by omega) (c:=(bt s (i+1):Int)) (by rw[eX s (i+1) (by omega)];rfl)<|?_
        refine US.aG U (by decide) U U U U (r:=.bool false) (by(simp[fu,fB,q1];done))<|?_
        refine Q.mv U<|?_
        (refine US.on U U (by decide) U ?_;refine US.move U (by decide) U U U ?_)
        (refine US.on U U (by decide) U ?_;refine US.move U (by decide) U U U ?_)
        (refine US.on U U (by decide) U ?_;refine US.bz U (by decide) U U Tryz.underlying9 U U (by omega) (by omega) (c:=(bt s (i+1):Int)) (by rw[eX s (i+1) (by omega)];rfl) ?_)
        (refine US.on U U (by decide) U ?_;refine US.aG U (by decide) U U U U (r:=.bool false) (by(simp[fu,fB,q2];done)) ?_)
        refine Q.pk U U<|Q.nt<|UW.cond U (λh=>absurd h (by simp)) λ_=>?_
        have ht0:0<=(bt s (i+1):Int).tmod 64:=Int.tmod_nonneg _ (by omega)
        have ht1:(bt s (i+1):Int).tmod 64<64:=Int.tmod_lt_of_pos _ (by decide)
        refine UW.skip<|UQ.then<|UW.region<|Q.mv U<|US.mul U (by decide) U U U U (r:=64*iX s ((bt s 0:Int).tmod 8) i) (IntWalk.i64_in _ (by omega))<|Q.mv U<|Q.mv U<|US.bz U (by decide) U U Tryz.underlying9 U U (by omega) (by omega) (c:=(bt s (i+1):Int)) (by rw[eX s (i+1) (by omega)];rfl)<|?_
        refine Q.bi U U U<|US.conv U (by decide) U U (by rw[Tryz.underlying5];rfl) Tryz.underlying3 U (r:=(bt s (i+1):Int).tmod 64) (IntWalk.i64_in _ (by omega))<|?_
        refine US.add U (by decide) U U U U (r:=iX s ((bt s 0:Int).tmod 8) (i+1)) (IntWalk.i64_in _ (by omega))<|Q.as U<|US.nil<|UQ.aI<|UQ.then<|UW.region<|Q.mv U<|US.add U (by decide) U U U U (r:=((i+1+1:Nat):Int)) (IntWalk.i64_in _ (by omega))<|Q.as U<|?_
        exact US.round (a':=i+1) ⟨by omega,λj h3=>by
         by_cases hjk:j=i
         ·subst hjk;unfold dA;rw[decide_eq_true (by omega:128<=bt s (j+1)),decide_eq_true (by omega:bt s (j+1)<=191)];rfl
         ·exact hj j (by omega)⟩ (by omega) ⟨rfl,rfl,rfl,rfl,trivial⟩ (.refl _)
     ·have h:=of_decide_eq_false h
      have hin:i=3:=by omega
      subst hin
      have hall:(List.range 3).all (λi=>dA s (i+1))=true:=by
       rw[List.all_eq_true]
       exactλj hjm=>hj j (List.mem_range.1 hjm)
      have gH:fA s=if bY 65536 (iX s ((bt s 0:Int).tmod 8) 3) then(3:Int)+1 else 0:=by rw[hone,iY,hall];rfl
      clear hj
      generalize iX s ((bt s 0:Int).tmod 8) 3=r at gH hb⊢
      refine UW.exit<|UQ.pass<|UQ.pass<|UQ.here<|UQ.then<|Q.rg<|US.tX U (by decide) U U K4 (by decide) U U U (by exact dx U)<|?_
      refine Q.mv U<|US.dN U (by decide) U U NJ U U (by omega) U U<|US.eZ U (by decide) U U U bC<|Q.as U<|Q.nt<|UW.seq<|Q.rg<|?_
      by_cases p1:r<65536
      ·refine Q.mv U<|Q.mv U<|US.aG U (by decide) U U U U (r:=.bool true) (by(simp[fu,fB,p1];done))<|?_
       refine Q.mv U<|Q.of<|Q.of<|Q.of<|Q.ou<|Q.ou<|Q.of<|Q.pk U U<|Q.mv U<|Q.of<|Q.of<|Q.pk U U<|Q.nt<|?_
       refine UW.cond U (λ_=>?_) (λh=>absurd h (by simp))
       refine Q.rg<|Q.as U<|Q.nt<|UW.ret<|UQ.aj<|?_
       refine bD [] (λ_=>au U U) (.refl _) λhd=>⟨?_,rfl⟩
       rw[gH,show bY 65536 r=false from by simp only[bY,Bool.and_eq_true,Bool.and_eq_false_iff,Bool.not_eq_true',Bool.not_eq_false',decide_eq_true_eq,decide_eq_false_iff_not];omega];rfl
      ·by_cases p2:r>=55296
       ·by_cases p3:r<=57343
        ·refine Q.mv U<|Q.mv U<|US.aG U (by decide) U U U U (r:=.bool false) (by(simp[fu,fB,p1];done))<|?_
         refine Q.mv U<|?_
         (refine US.on U U (by decide) U ?_;refine US.move U (by decide) U U U ?_)
         (refine US.on U U (by decide) U ?_;refine US.aG U (by decide) U U U U (r:=.bool true) (by(simp[fu,fB,p2];done)) ?_)
         (refine US.on U U (by decide) U ?_;refine US.move U (by decide) U U U ?_)
         (refine US.on U U (by decide) U ?_;refine US.move U (by decide) U U U ?_)
         (refine US.on U U (by decide) U ?_;refine US.aG U (by decide) U U U U (r:=.bool true) (by(simp[fu,fB,p3];done)) ?_)
         (refine US.on U U (by decide) U ?_;refine US.pick U (by decide) U U U U ?_)
         refine Q.pk U U<|Q.mv U<|Q.of<|Q.of<|Q.pk U U<|Q.nt<|?_
         refine UW.cond U (λ_=>?_) (λh=>absurd h (by simp))
         refine Q.rg<|Q.as U<|Q.nt<|UW.ret<|UQ.aj<|?_
         refine bD [] (λ_=>au U U) (.refl _) λhd=>⟨?_,rfl⟩
         rw[gH,show bY 65536 r=false from by simp only[bY,Bool.and_eq_true,Bool.and_eq_false_iff,Bool.not_eq_true',Bool.not_eq_false',decide_eq_true_eq,decide_eq_false_iff_not];omega];rfl
        ·by_cases p4:r>1114111
         ·refine Q.mv U<|Q.mv U<|US.aG U (by decide) U U U U (r:=.bool false) (by(simp[fu,fB,p1];done))<|?_
          refine Q.mv U<|?_
          (refine US.on U U (by decide) U ?_;refine US.move U (by decide) U U U ?_)
          (refine US.on U U (by decide) U ?_;refine US.aG U (by decide) U U U U (r:=.bool true) (by(simp[fu,fB,p2];done)) ?_)
          (refine US.on U U (by decide) U ?_;refine US.move U (by decide) U U U ?_)
          (refine US.on U U (by decide) U ?_;refine US.move U (by decide) U U U ?_)
          (refine US.on U U (by decide) U ?_;refine US.aG U (by decide) U U U U (r:=.bool false) (by(simp[fu,fB,p3];done)) ?_)
          (refine US.on U U (by decide) U ?_;refine US.pick U (by decide) U U U U ?_)
          refine Q.pk U U<|Q.mv U<|?_
          (refine US.on U U (by decide) U ?_;refine US.move U (by decide) U U U ?_)
          (refine US.on U U (by decide) U ?_;refine US.aG U (by decide) U U U U (r:=.bool true) (by(simp[fu,fB,p4];done)) ?_)
          refine Q.pk U U<|Q.nt<|?_
          refine UW.cond U (λ_=>?_) (λh=>absurd h (by simp))
          refine Q.rg<|Q.as U<|Q.nt<|UW.ret<|UQ.aj<|?_
          refine bD [] (λ_=>au U U) (.refl _) λhd=>⟨?_,rfl⟩
          rw[gH,show bY 65536 r=false from by simp only[bY,Bool.and_eq_true,Bool.and_eq_false_iff,Bool.not_eq_true',Bool.not_eq_false',decide_eq_true_eq,decide_eq_false_iff_not];omega];rfl
         ·refine Q.mv U<|Q.mv U<|US.aG U (by decide) U U U U (r:=.bool false) (by(simp[fu,fB,p1];done))<|?_
          refine Q.mv U<|?_
          (refine US.on U U (by decide) U ?_;refine US.move U (by decide) U U U ?_)
          (refine US.on U U (by decide) U ?_;refine US.aG U (by decide) U U U U (r:=.bool true) (by(simp[fu,fB,p2];done)) ?_)
          (refine US.on U U (by decide) U ?_;refine US.move U (by decide) U U U ?_)
          (refine US.on U U (by decide) U ?_;refine US.move U (by decide) U U U ?_)
          (refine US.on U U (by decide) U ?_;refine US.aG U (by decide) U U U U (r:=.bool false) (by(simp[fu,fB,p3];done)) ?_)
          (refine US.on U U (by decide) U ?_;refine US.pick U (by decide) U U U U ?_)
          refine Q.pk U U<|Q.mv U<|?_
          (refine US.on U U (by decide) U ?_;refine US.move U (by decide) U U U ?_)
          (refine US.on U U (by decide) U ?_;refine US.aG U (by decide) U U U U (r:=.bool false) (by(simp[fu,fB,p4];done)) ?_)
          refine Q.pk U U<|Q.nt<|UW.cond U (λh=>absurd h (by simp)) λ_=>?_
          refine UW.skip<|UQ.then<|Q.rg<|Q.mv U<|US.add U (by decide) U U U U (IntWalk.i64_in _ (by omega))<|Q.as U<|Q.nt<|UW.ret<|?_
          refine bD [] (λ_=>au U U) (.refl _) λhd=>⟨?_,rfl⟩
          rw[gH,show bY 65536 r=true from by simp only[bY,Bool.and_eq_true,Bool.and_eq_false_iff,Bool.not_eq_true',Bool.not_eq_false',decide_eq_true_eq,decide_eq_false_iff_not];omega];rfl
       ·by_cases p4:r>1114111
        ·refine Q.mv U<|Q.mv U<|US.aG U (by decide) U U U U (r:=.bool false) (by(simp[fu,fB,p1];done))<|?_
         refine Q.mv U<|?_
         (refine US.on U U (by decide) U ?_;refine US.move U (by decide) U U U ?_)
         (refine US.on U U (by decide) U ?_;refine US.aG U (by decide) U U U U (r:=.bool false) (by(simp[fu,fB,p2];done)) ?_)
         (refine US.on U U (by decide) U ?_;refine US.move U (by decide) U U U ?_)
         refine Q.of<|Q.of<|?_
         (refine US.on U U (by decide) U ?_;refine US.pick U (by decide) U U U U ?_)
         refine Q.pk U U<|Q.mv U<|?_
         (refine US.on U U (by decide) U ?_;refine US.move U (by decide) U U U ?_)
         (refine US.on U U (by decide) U ?_;refine US.aG U (by decide) U U U U (r:=.bool true) (by(simp[fu,fB,p4];done)) ?_)
         refine Q.pk U U<|Q.nt<|?_
         refine UW.cond U (λ_=>?_) (λh=>absurd h (by simp))
         refine Q.rg<|Q.as U<|Q.nt<|UW.ret<|UQ.aj<|?_
         refine bD [] (λ_=>au U U) (.refl _) λhd=>⟨?_,rfl⟩
         rw[gH,show bY 65536 r=false from by simp only[bY,Bool.and_eq_true,Bool.and_eq_false_iff,Bool.not_eq_true',Bool.not_eq_false',decide_eq_true_eq,decide_eq_false_iff_not];omega];rfl
        ·refine Q.mv U<|Q.mv U<|US.aG U (by decide) U U U U (r:=.bool false) (by(simp[fu,fB,p1];done))<|?_
         refine Q.mv U<|?_
         (refine US.on U U (by decide) U ?_;refine US.move U (by decide) U U U ?_)
         (refine US.on U U (by decide) U ?_;refine US.aG U (by decide) U U U U (r:=.bool false) (by(simp[fu,fB,p2];done)) ?_)
         (refine US.on U U (by decide) U ?_;refine US.move U (by decide) U U U ?_)
         refine Q.of<|Q.of<|?_
         (refine US.on U U (by decide) U ?_;refine US.pick U (by decide) U U U U ?_)
         refine Q.pk U U<|Q.mv U<|?_
         (refine US.on U U (by decide) U ?_;refine US.move U (by decide) U U U ?_)
         (refine US.on U U (by decide) U ?_;refine US.aG U (by decide) U U U U (r:=.bool false) (by(simp[fu,fB,p4];done)) ?_)
         refine Q.pk U U<|Q.nt<|UW.cond U (λh=>absurd h (by simp)) λ_=>?_
         refine UW.skip<|UQ.then<|Q.rg<|Q.mv U<|US.add U (by decide) U U U U (IntWalk.i64_in _ (by omega))<|Q.as U<|Q.nt<|UW.ret<|?_
         refine bD [] (λ_=>au U U) (.refl _) λhd=>⟨?_,rfl⟩
         rw[gH,show bY 65536 r=true from by simp only[bY,Bool.and_eq_true,Bool.and_eq_false_iff,Bool.not_eq_true',Bool.not_eq_false',decide_eq_true_eq,decide_eq_false_iff_not];omega];rfl
end Go.Proofs.YtbooeongacgnbaaGreatDoor
end
