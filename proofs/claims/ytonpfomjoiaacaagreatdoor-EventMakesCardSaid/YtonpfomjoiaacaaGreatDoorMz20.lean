/- A part of the proof. -/
import Derived.Test.YtonpfomjoiaacaaGreatDoorMz19
import Derived.Test.YtonpfomjoiaacaaGreatDoorMz17
import Derived.Test.YtonpfomjoiaacaaGreatDoorMz14
set_option maxRecDepth 100000
set_option maxHeartbeats 4000000
set_option linter.unusedSectionVars false
set_option linter.unusedVariables false
set_option linter.unusedSimpArgs false
section
namespace Go.Proofs.YtonpfomjoiaacaaGreatDoor
open Go Go.fT Go.RowKit
def Bv(s:ByteArray):Nat->Nat->Int
 |0,_=> -1
 |f+1,pos=>if pos<s.size then(if kv (s.extract pos s.size)=0 then(pos:Int) else Bv s f (pos+(kv (s.extract pos s.size)).toNat)) else-1
def aax(s:ByteArray):Int:=Bv s (s.size+1) 0
theorem Cr(s:ByteArray)(n:Nat)(l r0:Int):0<=jJ s n l r0/\jJ s n l r0<=n+1:=by
 unfold jJ;repeat' split
 all_goals omega
theorem VH(s:ByteArray):0<=kv s/\kv s<=s.size:=by
 unfold kv
 by_cases h0:s.size=0
 ·rw[if_pos h0];omega
 ·rw[if_neg h0]
  have b0:=Cr s 0 0 (bt s 0)
  have b1:=Cr s 1 128 ((bt s 0:Int).tmod 32)
  have b2:=Cr s 2 2048 ((bt s 0:Int).tmod 16)
  have b3:=Cr s 3 65536 ((bt s 0:Int).tmod 8)
  have hm:=Dy (bt s 0)
  repeat' split
  all_goals omega
theorem Le(s:ByteArray)(hs:s.size<=4000000)(H:Hp):au Tryz.prog 158 [.v (.string s)] H (bz H (.v (.int .i64 (aax s)))):=by
 refine aF (n:=19) (H0:=H) (I:=[]) Tryz.func158 (by kernel_rfl) U (by rw[Tryz.ntmps158];rfl) .nil<|?_
 refine Q.rg<|Q.as U<|Q.nt<|Q.rg<|Q.as U<|Q.nt<|UW.seq<|UW.block<|UW.loop (λp:Nat×Nat=>[(3,.v (.int .i64 (p.1:Int))),(0,.v (.string s))]) (λp=>[]) (λp=>p.1<=s.size/\s.size-p.1<p.2/\Bv s p.2 p.1=aax s) (λp=>p.2) (0,s.size+1) ⟨Nat.zero_le _,by simp,rfl⟩ ⟨rfl,rfl,trivial⟩ (.refl _)<|?_
 rintro⟨pos,f⟩ ⟨hp,hf,hc⟩
 simp only at hp hf hc
 obtain⟨f,rfl⟩:∃f',f=f'+1:=⟨f-1,by omega⟩
 refine UW.seq<|Q.rg<|Q.mv U<|Q.mv U<|US.qa U (by decide) U U Tryz.underlying9 U<|Q.bi U U U<|Q.nt<|?_
 refine UW.cond U (λh=>?_) (λh=>?_)
 ·have h:=of_decide_eq_true h
  have hlt:pos<s.size:=by simp only at h;omega
  have hbd:=VH (s.extract pos s.size)
  rw[ByteArray.size_extract] at hbd
  refine UW.skip<|UQ.then<|UW.block<|Q.rg<|Q.mv U<|Q.mv U<|US.nZ U (by decide) U U Tryz.underlying9 U (.lo U) (by simp only;omega) (by omega)<|?_
  refine US.dz U (by decide) U U U U (λ_=>TC _ (by rw[ByteArray.size_extract];omega) _)<|?_
  refine Q.as U<|Q.nt<|UW.seq<|Q.rg<|?_
  by_cases h0:kv (s.extract pos s.size)=0
  ·refine Q.mv U<|US.az U (by decide) U U U U (r:=.bool true) (by(simp[dZ,eH,h0];done))<|?_
   refine Q.nt<|?_
   refine UW.cond U (λ_=>?_) (λh=>absurd h (by simp))
   refine Q.rg<|Q.mv U<|Q.as U<|Q.nt<|UW.ret<|UQ.ax<|UQ.aH<|UQ.ax<|UQ.aH<|UQ.ax<|?_
   refine bN [] (λ_=>ak U U) (.refl _) λhd=>⟨?_,rfl⟩
   rw[<-hc,Bv,if_pos hlt,if_pos h0]
  ·refine Q.mv U<|US.az U (by decide) U U U U (r:=.bool false) (by(simp[dZ,eH,h0];done))<|?_
   refine Q.nt<|UW.cond U (λh=>absurd h (by simp)) λ_=>?_
   refine UW.skip<|UQ.then<|UW.region<|Q.mv U<|Q.mv U<|US.add U (by decide) U U U U (r:=((pos+(kv (s.extract pos s.size)).toNat:Nat):Int)) (Eq.trans (IntWalk.i64_in _ (by simp only;omega)) (by simp only;omega))<|?_
   refine Q.as U<|US.keep [(3,.v (.int .i64 ((pos+(kv (s.extract pos s.size)).toNat:Nat):Int))),(0,.v (.string s))] [] ⟨rfl,rfl,trivial⟩ (.refl _)<|US.nil<|UQ.aB<|?_
   exactλhd=>⟨(pos+(kv (s.extract pos s.size)).toNat,f),⟨by simp only;omega,by simp only;omega,by
    simp only
    rw[<-hc]
    conv=>rhs;rw[Bv,if_pos hlt,if_neg h0]⟩,by simp,hd,rfl,rfl⟩
 ·have h:=of_decide_eq_false h
  refine UW.exit<|UQ.pass<|UQ.pass<|UQ.here<|UQ.then<|Q.rg<|Q.as U<|Q.nt<|UW.ret<|?_
  refine bN [] (λ_=>ak U U) (.refl _) λhd=>⟨?_,rfl⟩
  rw[<-hc,Bv,if_neg (by simp only at h;omega)]
theorem iw(s:ByteArray)(pos k:Nat)(h:pos+k<s.size):bt (s.extract pos s.size) k=bt s (pos+k):=by
 rw[gq _ k (by rw[ByteArray.size_extract];omega),gq s (pos+k) h]
 congr 1
 simp[ByteArray.getElem_extract]
theorem cont_iff(b:Nat)(hb:b<256):(b/64==2)=(decide (128<=b)&&decide (b<=191)):=by
 rw[Bool.eq_iff_iff]
 simp only[beq_iff_eq,Bool.and_eq_true,decide_eq_true_eq]
 omega
def lQ(m B0 B1 B2 B3:Nat):Nat:=
 if B0<128 then 1
 else if 194<=B0/\B0<=223/\1<m/\128<=B1/\B1<=191 then 2
 else if 224<=B0/\B0<=239/\2<m/\128<=B1/\B1<=191/\128<=B2/\B2<=191/\2048<=64*(64*(B0 % 16)+B1 % 64)+B2 % 64/\¬(55296<=64*(64*(B0 % 16)+B1 % 64)+B2 % 64/\64*(64*(B0 % 16)+B1 % 64)+B2 % 64<=57343) then 3
 else if 240<=B0/\B0<=244/\3<m/\128<=B1/\B1<=191/\128<=B2/\B2<=191/\128<=B3/\B3<=191/\65536<=64*(64*(64*(B0 % 8)+B1 % 64)+B2 % 64)+B3 % 64/\64*(64*(64*(B0 % 8)+B1 % 64)+B2 % 64)+B3 % 64<=1114111 then 4
 else 0
theorem aay(t:ByteArray)(l r0:Int):jJ t 1 l r0=if dJ t 1=true/\bX l (64*r0+(bt t 1:Int).tmod 64)=true then 2 else 0:=by
 unfold jJ
 have:(List.range 1).all (λi=>dJ t (i+1))=dJ t 1:=by simp[List.range_succ]
 rw[this]
 cases h1:dJ t 1<;>cases h2:bX l (jI t r0 1)<;>simp_all[jI]
theorem aaz(t:ByteArray)(l r0:Int):jJ t 2 l r0=if (dJ t 1=true/\dJ t 2=true)/\bX l (64*(64*r0+(bt t 1:Int).tmod 64)+(bt t 2:Int).tmod 64)=true then 3 else 0:=by
 unfold jJ
 have:(List.range 2).all (λi=>dJ t (i+1))=(dJ t 1&&dJ t 2):=by simp[List.range_succ]
 rw[this]
 cases h1:dJ t 1<;>cases h3:dJ t 2<;>cases h2:bX l (jI t r0 2)<;>simp_all[jI]
theorem aaA(t:ByteArray)(l r0:Int):jJ t 3 l r0=if (dJ t 1=true/\dJ t 2=true/\dJ t 3=true)/\bX l (64*(64*(64*r0+(bt t 1:Int).tmod 64)+(bt t 2:Int).tmod 64)+(bt t 3:Int).tmod 64)=true then 4 else 0:=by
 unfold jJ
 have:(List.range 3).all (λi=>dJ t (i+1))=(dJ t 1&&(dJ t 2&&dJ t 3)):=by simp[List.range_succ,Bool.and_assoc]
 rw[this]
 cases h1:dJ t 1<;>cases h3:dJ t 2<;>cases h4:dJ t 3<;>cases h2:bX l (jI t r0 3)<;>simp_all[jI]
theorem QZ(t:ByteArray)(h:0<t.size):kv t=(lQ t.size (bt t 0) (bt t 1) (bt t 2) (bt t 3):Int):=by
 have b0:=mV t 0
 have b1:=mV t 1
 have b2:=mV t 2
 have b3:=mV t 3
 have e32:(bt t 0:Int).tmod 32=((bt t 0 % 32:Nat):Int):=rfl
 have e16:(bt t 0:Int).tmod 16=((bt t 0 % 16:Nat):Int):=rfl
 have e8:(bt t 0:Int).tmod 8=((bt t 0 % 8:Nat):Int):=rfl
 have e1:(bt t 1:Int).tmod 64=((bt t 1 % 64:Nat):Int):=rfl
 have e2:(bt t 2:Int).tmod 64=((bt t 2 % 64:Nat):Int):=rfl
 have e3:(bt t 3:Int).tmod 64=((bt t 3 % 64:Nat):Int):=rfl
 have e0:jJ t 0 0 (bt t 0)=if bX 0 (bt t 0)=true then 1 else 0:=by unfold jJ;simp[jI]
 have key:∀m:Int,lU (bt t 0)=m->(m<0->lQ t.size (bt t 0) (bt t 1) (bt t 2) (bt t 3)=0)->(0<=m->(t.size:Int)<=m->lQ t.size (bt t 0) (bt t 1) (bt t 2) (bt t 3)=0)->
  (m=0->jJ t 0 0 (bt t 0)=(lQ t.size (bt t 0) (bt t 1) (bt t 2) (bt t 3):Int))->(m=1->m<t.size->jJ t 1 128 ((bt t 0:Int).tmod 32)=(lQ t.size (bt t 0) (bt t 1) (bt t 2) (bt t 3):Int))->(m=2->m<t.size->jJ t 2 2048 ((bt t 0:Int).tmod 16)=(lQ t.size (bt t 0) (bt t 1) (bt t 2) (bt t 3):Int))->
  (m=3->m<t.size->jJ t 3 65536 ((bt t 0:Int).tmod 8)=(lQ t.size (bt t 0) (bt t 1) (bt t 2) (bt t 3):Int))->kv t=(lQ t.size (bt t 0) (bt t 1) (bt t 2) (bt t 3):Int):=by
  intro m hm k1 k2 q0 q1 q2 q3
  have hm3:=Dy (bt t 0)
  rw[hm] at hm3
  unfold kv
  rw[if_neg (by omega),hm]
  by_cases h1:m<0
  ·rw[if_pos h1,k1 h1];rfl
  ·rw[if_neg h1]
   by_cases h2:(t.size:Int)<=m
   ·rw[if_pos h2,k2 (by omega) h2];rfl
   ·rw[if_neg h2]
    by_cases h3:m=0
    ·rw[if_pos h3];exact q0 h3
    ·rw[if_neg h3]
     by_cases h4:m=1
     ·rw[if_pos h4];exact q1 h4 (by omega)
     ·rw[if_neg h4]
      by_cases h5:m=2
      ·rw[if_pos h5];exact q2 h5 (by omega)
      ·rw[if_neg h5];exact q3 (by omega) (by omega)
 have hmore:∀m:Int,(if (bt t 0:Int)<128 then(0:Int) else if 194<=(bt t 0:Int)/\(bt t 0:Int)<=223 then 1 else if 224<=(bt t 0:Int)/\(bt t 0:Int)<=239 then 2 else if 240<=(bt t 0:Int)/\(bt t 0:Int)<=244 then 3 else-1)=m->lU (bt t 0)=m:=λm h=>h
 refine key _ (hmore _ U) ?_ ?_ ?_ ?_ ?_ ?_
 all_goals (try rw[aay]);(try rw[aaz]);(try rw[aaA]);(try rw[e0])
 all_goals (try rw[e32]);(try rw[e16]);(try rw[e8])
 all_goals (try rw[e1]);(try rw[e2]);(try rw[e3])
 all_goals unfold lQ
 all_goals (try unfold bX)
 all_goals (try unfold dJ)
 all_goals generalize bt t 0=B0 at*
 all_goals generalize bt t 1=B1 at*
 all_goals generalize bt t 2=B2 at*
 all_goals generalize bt t 3=B3 at*
 all_goals generalize t.size=m at*
 all_goals (try simp only[Bool.and_eq_true,Bool.not_eq_true',Bool.and_eq_false_iff,decide_eq_true_eq,decide_eq_false_iff_not])
 all_goals clear key hmore e32 e16 e8 e1 e2 e3 e0
 ·intro h1
  repeat' split at h1
  all_goals first|omega|(repeat' split)<;>omega
 ·intro h1 h2
  repeat' split at h1
  all_goals first|omega|skip
  all_goals (repeat' split)<;>omega
 ·intro h1
  repeat' split at h1
  all_goals first|omega|(repeat' split)<;>omega
 ·intro h1 h2
  rw[h1] at h2
  repeat' split at h1
  all_goals first|omega|skip
  all_goals (repeat' split)<;>omega
 ·intro h1 h2
  rw[h1] at h2
  repeat' split at h1
  all_goals first|omega|skip
  all_goals (repeat' split)<;>omega
 ·intro h1 h2
  rw[h1] at h2
  repeat' split at h1
  all_goals first|omega|skip
  all_goals (repeat' split)<;>omega
theorem Gu(s:ByteArray)(pos:Nat):Utf8.decode s pos=
 (if bt s pos<128 then(bt s pos,1)
  else if (bt s pos/32==6&&(decide (pos+1<s.size)&&bt s (pos+1)/64==2))=true then
   (if bt s pos % 32*64+bt s (pos+1)% 64>=128 then(bt s pos % 32*64+bt s (pos+1)% 64,2) else(65533,1))
  else if (bt s pos/16==14&&(decide (pos+1<s.size)&&bt s (pos+1)/64==2)&&(decide (pos+2<s.size)&&bt s (pos+2)/64==2))=true then
   (if (decide (bt s pos % 16*4096+bt s (pos+1)% 64*64+bt s (pos+2)% 64>=2048)&&Utf8.valid (bt s pos % 16*4096+bt s (pos+1)% 64*64+bt s (pos+2)% 64:Nat))=true then(bt s pos % 16*4096+bt s (pos+1)% 64*64+bt s (pos+2)% 64,3) else(65533,1))
  else if (bt s pos/8==30&&(decide (pos+1<s.size)&&bt s (pos+1)/64==2)&&(decide (pos+2<s.size)&&bt s (pos+2)/64==2)&&(decide (pos+3<s.size)&&bt s (pos+3)/64==2))=true then
   (if (decide (bt s pos % 8*262144+bt s (pos+1)% 64*4096+bt s (pos+2)% 64*64+bt s (pos+3)% 64>=65536)&&Utf8.valid (bt s pos % 8*262144+bt s (pos+1)% 64*4096+bt s (pos+2)% 64*64+bt s (pos+3)% 64:Nat))=true then(bt s pos % 8*262144+bt s (pos+1)% 64*4096+bt s (pos+2)% 64*64+bt s (pos+3)% 64,4) else(65533,1))
  else(65533,1)):=rfl
theorem VI(s:ByteArray)(pos:Nat)(h:pos<s.size)(hl:lQ (s.size-pos) (bt s pos) (bt s (pos+1)) (bt s (pos+2)) (bt s (pos+3))=0):
 Utf8.decode s pos=(65533,1)/\¬(3<=s.size-pos/\bt s pos=239/\bt s (pos+1)=191/\bt s (pos+2)=189):=by
 have b0:=mV s pos
 have b1:=mV s (pos+1)
 have b2:=mV s (pos+2)
 have b3:=mV s (pos+3)
 rw[Gu]
 unfold lQ at hl
 unfold Utf8.valid
 generalize bt s pos=B0 at*
 generalize bt s (pos+1)=B1 at*
 generalize bt s (pos+2)=B2 at*
 generalize bt s (pos+3)=B3 at*
 simp only[Bool.and_eq_true,Bool.or_eq_true,beq_iff_eq,decide_eq_true_eq]
 repeat' split at hl
 all_goals first|omega|skip
 constructor
 ·repeat' split
  all_goals first|rfl|(exfalso;omega)
 ·omega
theorem TD(s:ByteArray)(pos:Nat)(h:pos<s.size)(hl:lQ (s.size-pos) (bt s pos) (bt s (pos+1)) (bt s (pos+2)) (bt s (pos+3))≠0):
 (Utf8.decode s pos).2=lQ (s.size-pos) (bt s pos) (bt s (pos+1)) (bt s (pos+2)) (bt s (pos+3))/\((Utf8.decode s pos).1=65533->3<=s.size-pos/\bt s pos=239/\bt s (pos+1)=191/\bt s (pos+2)=189):=by
 have b0:=mV s pos
 have b1:=mV s (pos+1)
 have b2:=mV s (pos+2)
 have b3:=mV s (pos+3)
 rw[Gu]
 unfold lQ at hl⊢
 unfold Utf8.valid
 generalize bt s pos=B0 at*
 generalize bt s (pos+1)=B1 at*
 generalize bt s (pos+2)=B2 at*
 generalize bt s (pos+3)=B3 at*
 simp only[Bool.and_eq_true,Bool.or_eq_true,beq_iff_eq,decide_eq_true_eq]
 repeat' split at hl
 all_goals first|omega|skip
 all_goals (repeat' split)
 all_goals omega
 all_goals (refine⟨by omega,λhc=>?_⟩)
 all_goals (simp only at hc)
 all_goals omega
theorem VJ(t:ByteArray):pre t F6=true↔3<=t.size/\bt t 0=239/\bt t 1=191/\bt t 2=189:=by
 unfold pre
 rw[Bool.and_eq_true,decide_eq_true_eq,beq_iff_eq,Lib.extract_toList,Lib.toList_data]
 obtain⟨⟨l⟩⟩:=t
 match l with
 |[]=>simp[F6,ByteArray.size]
 |[a]=>simp[F6,ByteArray.size]
 |[a,b]=>simp[F6,ByteArray.size]
 |a::b::c::r=>
  have e0:bt ⟨⟨a::b::c::r⟩⟩ 0=a.toNat:=rfl
  have e1:bt ⟨⟨a::b::c::r⟩⟩ 1=b.toNat:=rfl
  have e2:bt ⟨⟨a::b::c::r⟩⟩ 2=c.toNat:=rfl
  rw[e0,e1,e2]
  have h3:(3:Nat)<=(ByteArray.mk (a::b::c::r).toArray).size:=by simp[ByteArray.size]
  have hs:F6.size=3:=rfl
  have he:F6.data.toList=[239,191,189]:=rfl
  rw[hs,he]
  have hu:∀(x:UInt8) (n:Nat) (hn:n<256),x=UInt8.ofNat n↔x.toNat=n:=by
   intro x n hn
   rw[<-UInt8.toNat_inj,UInt8.toNat_ofNat']
   omega
  constructor
  ·rintro⟨_,h⟩
   simp at h
   obtain⟨rfl,rfl,rfl⟩:=h
   exact⟨h3,rfl,rfl,rfl⟩
  ·rintro⟨_,q0,q1,q2⟩
   refine⟨h3,?_⟩
   have r0:=(hu a 239 (by decide)).2 q0
   have r1:=(hu b 191 (by decide)).2 q1
   have r2:=(hu c 189 (by decide)).2 q2
   subst r0 r1 r2
   rfl
theorem Iq(s:ByteArray)(pos:Nat):(s.extract pos s.size).size=s.size-pos:=by rw[ByteArray.size_extract];omega
theorem NK{m B0 B1 B2 B3 C1 C2 C3:Nat}(h1:1<m->B1=C1)(h2:2<m->B2=C2)(h3:3<m->B3=C3):lQ m B0 B1 B2 B3=lQ m B0 C1 C2 C3:=by
 by_cases q3:3<m
 ·rw[h1 (by omega),h2 (by omega),h3 q3]
 ·by_cases q2:2<m
  ·rw[h1 (by omega),h2 q2]
   unfold lQ
   repeat' split
   all_goals first|rfl|omega
  ·by_cases q1:1<m
   ·rw[h1 q1]
    unfold lQ
    repeat' split
    all_goals first|rfl|omega
   ·unfold lQ
    repeat' split
    all_goals first|rfl|omega
theorem VK(s:ByteArray)(pos:Nat)(h:pos<s.size):kv (s.extract pos s.size)=(lQ (s.size-pos) (bt s pos) (bt s (pos+1)) (bt s (pos+2)) (bt s (pos+3)):Int):=by
 rw[QZ _ (by rw[Iq];omega),Iq,iw s pos 0 (by omega)]
 refine congrArg (λn:Nat=>(n:Int))<|?_
 exact NK (λh=>iw s pos 1 (by omega)) (λh=>iw s pos 2 (by omega)) (λh=>iw s pos 3 (by omega))
theorem VL(s:ByteArray)(pos:Nat)(h:pos<s.size):(Lb s pos=true/\kv (s.extract pos s.size)=0)\/(Lb s pos=false/\kv (s.extract pos s.size)≠0/\(kv (s.extract pos s.size)).toNat=(Utf8.decode s pos).2):=by
 have hpre:pre (s.extract pos s.size) F6=true↔3<=s.size-pos/\bt s pos=239/\bt s (pos+1)=191/\bt s (pos+2)=189:=by
  rw[VJ,Iq]
  constructor
  ·rintro⟨q,q0,q1,q2⟩
   rw[iw s pos 0 (by omega)] at q0
   rw[iw s pos 1 (by omega)] at q1
   rw[iw s pos 2 (by omega)] at q2
   exact⟨q,q0,q1,q2⟩
  ·rintro⟨q,q0,q1,q2⟩
   rw[iw s pos 0 (by omega),iw s pos 1 (by omega),iw s pos 2 (by omega)]
   exact⟨q,q0,q1,q2⟩
 rw[VK s pos h]
 by_cases hl:lQ (s.size-pos) (bt s pos) (bt s (pos+1)) (bt s (pos+2)) (bt s (pos+3))=0
 ·obtain⟨q1,q2⟩:=VI s pos h hl
  refine .inl ⟨?_,by rw[hl];rfl⟩
  have:pre (s.extract pos s.size) F6=false:=by
   cases hp:pre (s.extract pos s.size) F6 with
   |false=>rfl
   |true=>exact absurd (hpre.1 hp) q2
  unfold Lb
  rw[q1,this];rfl
 ·obtain⟨q1,q2⟩:=TD s pos h hl
  refine .inr ⟨?_,by omega,by rw[q1];omega⟩
  unfold Lb
  by_cases hc:(Utf8.decode s pos).1=65533
  ·rw[hpre.2 (q2 hc)];simp
  ·have:((Utf8.decode s pos).1==65533)=false:=by simpa using hc
   rw[this];rfl
theorem aaB(s:ByteArray):PX s=aax s:=by
 have:∀f pos,VF s f pos=Bv s f pos:=by
  intro f
  induction f with
  |zero=>intro pos;rfl
  |succ f ih=>
   intro pos
   rw[VF,Bv]
   by_cases h:pos<s.size
   ·rw[if_pos h,if_pos h]
    rcases VL s pos h with ⟨q1,q2⟩|⟨q1,q2,q3⟩
    ·rw[if_pos q1,if_pos q2]
    ·rw[if_neg (by rw[q1];simp),if_neg q2,q3,ih]
   ·rw[if_neg h,if_neg h]
 exact this _ _
theorem Dz:∀(k:Nat) (l r:List UInt8),k<=l.length->k<=r.length->(∀j,j<k->l[j]? =r[j]?)->Lib.compareBytes l r=Lib.compareBytes (l.drop k) (r.drop k)
 |0,l,r,_,_,_=>by simp
 |k+1,[],r,h,_,_=>by simp at h
 |k+1,_::_,[],_,h,_=>by simp at h
 |k+1,a::l,b::r,h1,h2,h=>by
  have h0:=h 0 (by omega)
  simp at h0
  subst h0
  have:=Dz k l r (by simpa using h1) (by simpa using h2) (λj hj=>by simpa using h (j+1) (by omega))
  rw[List.drop_succ_cons,List.drop_succ_cons,<-this,Lib.compareBytes]
  simp
theorem iH(s:ByteArray)(k:Nat)(h:k<s.size):eG s (k:Int)=((s.data.toList[k]'(by simpa using h)).toNat:Int):=by
 unfold eG
 rw[dif_pos (by simpa using h)]
 rfl
theorem aaC(a b:ByteArray)(k:Nat)(ha:k<a.size)(hb:k<b.size)(h:∀j,j<k->eG a (j:Int)=eG b (j:Int))(hne:¬eG a (k:Int)=eG b (k:Int)):decide (Du a b<0)=decide (eG a (k:Int)<eG b (k:Int)):=by
 have hal:k<a.data.toList.length:=by simpa using ha
 have hbl:k<b.data.toList.length:=by simpa using hb
 have e1:Du a b=Lib.compareBytes (a.data.toList.drop k) (b.data.toList.drop k):=Dz k _ _ (by omega) (by omega) (λj hj=>by
  have:=h j hj
  rw[iH a j (by omega),iH b j (by omega)] at this
  rw[List.getElem?_eq_getElem (by omega),List.getElem?_eq_getElem (by omega)]
  congr 1
  exact UInt8.toNat_inj.1 (by omega))
 rw[iH a k ha,iH b k hb] at hne⊢
 rw[e1,List.drop_eq_getElem_cons hal,List.drop_eq_getElem_cons hbl,Lib.compareBytes]
 generalize a.data.toList[k]=p at hne⊢
 generalize b.data.toList[k]=q at hne⊢
 by_cases h1:p<q
 ·have:p.toNat<q.toNat:=h1
  rw[if_pos h1];simp[this]
 ·have h2:¬p.toNat<q.toNat:=h1
  have h3:q<p:=by show q.toNat<p.toNat;omega
  rw[if_neg h1,if_pos h3];simp;omega
theorem PZ(a b:ByteArray)(k:Nat)(hk:k=min a.size b.size)(h:∀j,j<k->eG a (j:Int)=eG b (j:Int)):decide (Du a b<0)=decide ((a.size:Int)<b.size):=by
 have hal:a.data.toList.length=a.size:=by simp
 have hbl:b.data.toList.length=b.size:=by simp
 have e1:Du a b=Lib.compareBytes (a.data.toList.drop k) (b.data.toList.drop k):=Dz k _ _ (by omega) (by omega) (λj hj=>by
  have:=h j hj
  rw[iH a j (by omega),iH b j (by omega)] at this
  rw[List.getElem?_eq_getElem (by omega),List.getElem?_eq_getElem (by omega)]
  congr 1
  exact UInt8.toNat_inj.1 (by omega))
 rw[e1]
 by_cases h1:a.size<b.size
 ·have e2:a.data.toList.drop k=[]:=List.drop_eq_nil_of_le (by omega)
  have e3:k<b.data.toList.length:=by omega
  rw[e2,List.drop_eq_getElem_cons e3,Lib.compareBytes]
  simp;omega
 ·by_cases h2:a.size=b.size
  ·have e2:a.data.toList.drop k=[]:=List.drop_eq_nil_of_le (by omega)
   have e3:b.data.toList.drop k=[]:=List.drop_eq_nil_of_le (by omega)
   rw[e2,e3,Lib.compareBytes];simp;omega
  ·have e2:b.data.toList.drop k=[]:=List.drop_eq_nil_of_le (by omega)
   have e3:k<a.data.toList.length:=by omega
   rw[e2,List.drop_eq_getElem_cons e3,Lib.compareBytes]
   simp;omega
theorem si(a b:ByteArray)(ha:a.size<=4000000)(H:Hp):au Tryz.prog 70 [.v (.string a),.v (.string b)] H (bz H (.v (.bool (dP a b)))):=by
 unfold dP
 refine aF (n:=37) (H0:=H) (I:=[]) Tryz.func70 (by kernel_rfl) U (by rw[Tryz.ntmps70];rfl) .nil<|?_
 refine Q.rg<|Q.as U<|Q.nt<|S.sq<|Q.rg<|Q.as U<|Q.nt<|UW.block<|S.loop (λk:Nat=>[(5,.v (.int .i64 (k:Int))),(0,.v (.string a)),(1,.v (.string b))]) (λ_=>[]) (λk=>k<=a.size/\k<=b.size/\∀j,j<k->eG a (j:Int)=eG b (j:Int)) (λk=>a.size-k) 0 ⟨Nat.zero_le _,Nat.zero_le _,λj h=>absurd h (by omega)⟩ ⟨rfl,rfl,rfl,trivial⟩ (.refl _)<|?_
 rintro k ⟨hk,hkb,hj⟩
 by_cases hlt:k<a.size
 ·by_cases hlt2:k<b.size
  ·by_cases hne:eG a (k:Int)=eG b (k:Int)
   ·focus
     refine S.sq<|Q.rg<|Q.mv U<|Q.mv U<|S.qu (Z.wP Tryz.underlying9 U)<|Q.bi U U U<|Q.mv U<|?_
     refine S.tD 10 (λxH=>?_) (λxH=>?_)
     rotate_left
     omega
     refine Q.on (Z.mv U)<|Q.on (Z.mv U)<|Q.on (Z.wP Tryz.underlying9 U)<|Q.on (Z.bi U U U)<|Q.pk U U<|Q.nt<|S.cT U (decide_eq_true (by omega))<|UW.skip<|UQ.then<|S.sq<|UW.block<|S.sq<|?_
     refine' UW.bG (by kernel_rfl) [0,0,3,0,0,24,63] [some 18,some 19,some 20,some 21,some 22,some 23,some 24] [some (18,_),some (19,_),some (20,_),some (21,_),some (22,_),some (23,_),some (24,_)] [] [] U (by decide) (by decide) (M.free (by decide) U U ?iX (M.free (by decide) U U ?iY (M.free (by decide) U U ?iZ (M.free (by decide) U U ?ja (M.free (by decide) U U ?jb (M.free (by decide) U U ?jc (M.free (by decide) U U ?jd M.nil))))))) ?sj
     case iX=>(intro _;exact Z.mv rfl)
     case iY=>(intro _;exact Z.mv rfl)
     case iZ=>(intro _;exact Z.is Tryz.underlying9 rfl rfl (by omega) (by omega))
     case ja=>(intro _;exact Z.mv rfl)
     case jb=>(intro _;exact Z.mv rfl)
     case jc=>(intro _;exact Z.is Tryz.underlying9 rfl rfl (by omega) (by omega))
     case jd=>(intro _;exact Z.bi rfl rfl rfl)
     refine CH.nil<|?_
     simp only[app,bV]
     refine UQ.then<|S.cF U (nL (by omega))<|UW.skip<|UQ.aB<|UQ.then<|S.rg<|Q.mv U<|S.qu (Z.add (r:=((k+1:Nat):Int)) U U (IntWalk.i64_in _ (by omega)))<|Q.as U<|US.nil<|?_
     refine S.back _ ⟨rfl,rfl,rfl,trivial⟩ (.refl _) ?_ (by omega)
    refine⟨by omega,by omega,λj h3=>?_⟩
    by_cases hjk:j=k
    ·subst hjk;exact hne
    ·exact hj j (by omega)
   ·focus
     refine S.sq<|Q.rg<|Q.mv U<|Q.mv U<|S.qu (Z.wP Tryz.underlying9 U)<|Q.bi U U U<|Q.mv U<|?_
     refine S.tD 10 (λxH=>?_) (λxH=>?_)
     rotate_left
     omega
     refine Q.on (Z.mv U)<|Q.on (Z.mv U)<|Q.on (Z.wP Tryz.underlying9 U)<|Q.on (Z.bi U U U)<|Q.pk U U<|Q.nt<|S.cT U (decide_eq_true (by omega))<|UW.skip<|UQ.then<|S.sq<|UW.block<|S.sq<|?_
     refine' UW.bG (by kernel_rfl) [0,0,3,0,0,24,63] [some 18,some 19,some 20,some 21,some 22,some 23,some 24] [some (18,_),some (19,_),some (20,_),some (21,_),some (22,_),some (23,_),some (24,_)] [] [] U (by decide) (by decide) (M.free (by decide) U U ?je (M.free (by decide) U U ?jf (M.free (by decide) U U ?jg (M.free (by decide) U U ?jh (M.free (by decide) U U ?ji (M.free (by decide) U U ?jK (M.free (by decide) U U ?mg M.nil))))))) ?su
     case je=>(intro _;exact Z.mv rfl)
     case jf=>(intro _;exact Z.mv rfl)
     case jg=>(intro _;exact Z.is Tryz.underlying9 rfl rfl (by omega) (by omega))
     case jh=>(intro _;exact Z.mv rfl)
     case ji=>(intro _;exact Z.mv rfl)
     case jK=>(intro _;exact Z.is Tryz.underlying9 rfl rfl (by omega) (by omega))
     case mg=>(intro _;exact Z.bi rfl rfl rfl)
     refine CH.nil<|?_
     simp only[app,bV]
     refine UQ.then<|S.cT U (uh (by omega))<|S.sq<|?_
     refine' UW.bG (by kernel_rfl) [0,0,3,0,0,24,63,127] [some 25,some 26,some 27,some 28,some 29,some 30,some 31,some 4] [some (25,_),some (26,_),some (27,_),some (28,_),some (29,_),some (30,_),some (31,_),some (4,_)] [] [] U (by decide) (by decide) (M.free (by decide) U U ?NL (M.free (by decide) U U ?NM (M.free (by decide) U U ?NN (M.free (by decide) U U ?NP (M.free (by decide) U U ?NQ (M.free (by decide) U U ?NR (M.free (by decide) U U ?NS (M.free (by decide) U U ?NT M.nil)))))))) ?aaD
     case NL=>(intro _;exact Z.mv rfl)
     case NM=>(intro _;exact Z.mv rfl)
     case NN=>(intro _;exact Z.is Tryz.underlying9 rfl rfl (by omega) (by omega))
     case NP=>(intro _;exact Z.mv rfl)
     case NQ=>(intro _;exact Z.mv rfl)
     case NR=>(intro _;exact Z.is Tryz.underlying9 rfl rfl (by omega) (by omega))
     case NS=>(intro _;exact Z.bi rfl rfl rfl)
     case NT=>(intro _;exact Z.as rfl)
     refine CH.nil<|?_
     simp only[app,bV]
     refine UQ.then<|UW.ret<|UQ.aH<|UQ.ax<|UQ.ax<|UQ.aH<|UQ.ax<|S.bK (λ_=>ak U U)<|?_
    rw[aaC a b k hlt hlt2 hj hne]
  ·focus
    refine S.sq<|Q.rg<|Q.mv U<|Q.mv U<|S.qu (Z.wP Tryz.underlying9 U)<|Q.bi U U U<|Q.mv U<|?_
    refine S.tD 10 (λxH=>?_) (λxH=>?_)
    rotate_left
    omega
    refine Q.on (Z.mv U)<|Q.on (Z.mv U)<|Q.on (Z.wP Tryz.underlying9 U)<|Q.on (Z.bi U U U)<|Q.pk U U<|Q.nt<|S.cF U (decide_eq_false (by omega))<|UW.exit<|UQ.pass<|UQ.pass<|UQ.here<|UQ.then<|Q.rg<|Q.mv U<|S.qu (Z.wP Tryz.underlying9 U)<|Q.mv U<|S.qu (Z.wP Tryz.underlying9 U)<|Q.bi U U U<|Q.as U<|Q.nt<|UW.ret<|S.bK (λ_=>ak U U)<|?_
   rw[PZ a b k (by omega) hj]
 ·refine S.sq<|Q.rg<|Q.mv U<|Q.mv U<|S.qu (Z.wP Tryz.underlying9 U)<|Q.bi U U U<|Q.mv U<|?_
  refine S.tD 10 (λxH=>?_) (λxH=>?_)
  omega
  refine Q.of<|Q.of<|Q.of<|Q.of<|Q.pk U U<|Q.nt<|S.cF U U<|UW.exit<|UQ.pass<|UQ.pass<|UQ.here<|UQ.then<|Q.rg<|Q.mv U<|S.qu (Z.wP Tryz.underlying9 U)<|Q.mv U<|S.qu (Z.wP Tryz.underlying9 U)<|Q.bi U U U<|Q.as U<|Q.nt<|UW.ret<|S.bK (λ_=>ak U U)<|?_
  rw[PZ a b k (by omega) hj]
theorem qC(l r:List ByteArray)(hl:l.length<=1000000)(H:Hp):au Tryz.prog 71 [strs l,strs r] H (bz H (.v (.bool (kX r9 l r)))):=by
 have wI:(l.map encS).length=l.length:=List.length_map ..
 have hmr:(r.map encS).length=r.length:=List.length_map ..
 refine aF (n:=26) (H0:=H) (I:=[]) Tryz.func71 (by kernel_rfl) U (by rw[Tryz.ntmps71];rfl) .nil<|?_
 by_cases hlen:l.length=r.length
 ·refine Q.rg<|Q.as U<|Q.nt<|S.sq<|Q.rg<|Q.mv U<|S.qu (Z.fG aY U)<|Q.mv U<|S.qu (Z.fG aY U)<|Q.bi U U U<|Q.nt<|S.cF U (nL (by omega))<|UW.skip<|UQ.then<|S.sq<|Q.rg<|Q.as U<|Q.nt<|UW.block<|S.loop (λk:Nat=>[(5,.v (.int .i64 (k:Int))),(0,strs l),(1,strs r)]) (λ_=>[]) (λk=>k<=l.length/\∀(j:Nat) (h:j<l.length) (h':j<r.length),j<k->r9 l[j] r[j]=true) (λk=>l.length-k) 0 ⟨Nat.zero_le _,λj _ _ h=>absurd h (by omega)⟩ ⟨rfl,rfl,rfl,trivial⟩ (.refl _)<|?_
  rintro k ⟨hk,hj⟩
  by_cases hlt:k<l.length
  ·have hgr:=eD r k (by omega)
   focus
    refine S.sq<|Q.rg<|Q.mv U<|Q.mv U<|S.qu (Z.fG aY U)<|Q.bi U U U<|Q.nt<|S.cT U (decide_eq_true (by omega))<|UW.skip<|UQ.then<|S.sq<|UW.block<|S.sq<|?_
    refine' UW.bG (by kernel_rfl) [0,0,3,7,0,0,48,112,255] [some 17,some 18,some 19,some 20,some 21,some 22,some 23,some 24,some 25] [some (17,_),some (18,_),some (19,_),some (20,_),some (21,_),some (22,_),some (23,_),some (24,_),some (25,_)] [] [3,7] U (by decide) (by decide) (M.free (by decide) U U ?xI (M.free (by decide) U U ?sD (M.free (by decide) U U ?sF (M.held (by decide) U U ?xJ (M.free (by decide) U U ?xK (M.free (by decide) U U ?xL (M.free (by decide) U U ?xM (M.held (by decide) U U ?xN (M.free (by decide) U U ?xO M.nil))))))))) ?Ir
    case xI=>(intro _;exact Z.mv rfl)
    case sD=>(intro _;exact Z.mv rfl)
    case sF=>(intro _;exact Z.ia aY rfl rfl (by omega) (eD _ _ (by omega)) (by rfl))
    case xJ=>exact Z.fE ed rfl
    case xK=>(intro _;exact Z.mv rfl)
    case xL=>(intro _;exact Z.mv rfl)
    case xM=>(intro _;exact Z.ia aY rfl rfl (by omega) (by assumption) (by rfl))
    case xN=>exact Z.fE ed rfl
    case xO=>(intro _;exact Z.bs rfl rfl rfl)
    refine CH.nil<|?_
    simp only[app,bV]
    refine UQ.then<|?_
    refine S.cO U (λhc25=>?_) (λhc25=>?_)
    refine Q.rg<|Q.as U<|Q.nt<|UW.ret<|UQ.aH<|UQ.ax<|UQ.ax<|UQ.aH<|UQ.ax<|S.bK (λ_=>ak U U)<|?_
    rotate_left
    refine UW.skip<|UQ.aB<|UQ.then<|S.rg<|Q.mv U<|S.qu (Z.add (r:=((k+1:Nat):Int)) U U (IntWalk.i64_in _ (by omega)))<|Q.as U<|US.nil<|?_
    refine S.back _ ⟨rfl,rfl,rfl,trivial⟩ (.refl _) ?_ (by omega)
    rotate_left
   ·rw[yZ k hlt (by omega) (by unfold r9;simpa using hc25)]
   ·refine⟨by omega,λj h3 h4 h5=>?_⟩
    by_cases hjk:j=k
    ·subst hjk;unfold r9;simpa using hc25
    ·exact hj j h3 h4 (by omega)
  ·refine S.sq<|Q.rg<|Q.mv U<|Q.mv U<|S.qu (Z.fG aY U)<|Q.bi U U U<|Q.nt<|S.cF U (decide_eq_false (by omega))<|UW.exit<|UQ.pass<|UQ.pass<|UQ.here<|UQ.then<|Q.rg<|Q.as U<|Q.nt<|UW.ret<|S.bK (λ_=>ak U U)<|?_
   rw[l9 hlen (λi h1 h2=>hj i h1 h2 (by omega))]
 ·refine Q.rg<|Q.as U<|Q.nt<|S.sq<|Q.rg<|Q.mv U<|S.qu (Z.fG aY U)<|Q.mv U<|S.qu (Z.fG aY U)<|Q.bi U U U<|Q.nt<|S.cT U (uh (by omega))<|Q.rg<|Q.as U<|Q.nt<|UW.ret<|UQ.ax<|S.bK (λ_=>ak U U)<|?_
  rw[uQ hlen]
def jL(c:Int):Int:=if c=34 then 34 else if c=92 then 92 else if c=8 then 98 else if c=9 then 116 else if c=10 then 110 else if c=12 then 102 else if c=13 then 114 else 0
theorem Lf(c:Int):0<=jL c/\jL c<256:=by unfold jL;(repeat' split)<;>omega
theorem Aq(c:Int)(H:Hp):au Tryz.prog 142 [.v (.int .u8 c)] H (bz H (.v (.int .u8 (jL c)))):=by
 refine aF (n:=18) (H0:=H) (I:=[]) Tryz.func142 (by kernel_rfl) U (by rw[Tryz.ntmps142];rfl) .nil<|?_
 refine Q.rg<|Q.as U<|Q.nt<|S.sq<|Q.rg<|Q.mv U<|Q.nt<|UW.block<|S.sq<|Q.rg<|Q.bi U U U<|Q.as U<|Q.nt<|?_
 refine S.cE U (λhc4=>?_) (λhc4=>?_)
 refine UW.skip<|UQ.then<|S.cT U (kQ (by omega))<|Q.rg<|Q.mv U<|Q.as U<|Q.nt<|UW.ret<|UQ.aH<|UQ.ax<|S.bK (λ_=>ak U U)<|?_
 focus (congr 2;unfold jL;(repeat' split)<;>omega;done)
 refine S.rg<|Q.bi U U U<|Q.as U<|Q.nt<|?_
 refine S.cE U (λhc4=>?_) (λhc4=>?_)
 refine Q.rg<|Q.mv U<|Q.as U<|Q.nt<|UW.ret<|UQ.aH<|UQ.ax<|S.bK (λ_=>ak U U)<|?_
 focus (congr 2;unfold jL;(repeat' split)<;>omega;done)
 refine Q.rg<|Q.bi U U U<|Q.as U<|Q.nt<|?_
 refine S.cE U (λhc8=>?_) (λhc8=>?_)
 refine Q.rg<|Q.as U<|Q.nt<|UW.ret<|UQ.aH<|UQ.ax<|S.bK (λ_=>ak U U)<|?_
 focus (congr 2;unfold jL;(repeat' split)<;>omega;done)
 refine Q.rg<|Q.bi U U U<|Q.as U<|Q.nt<|?_
 refine S.cE U (λxH=>?_) (λxH=>?_)
 refine Q.rg<|Q.as U<|Q.nt<|UW.ret<|UQ.aH<|UQ.ax<|S.bK (λ_=>ak U U)<|?_
 focus (congr 2;unfold jL;(repeat' split)<;>omega;done)
 refine Q.rg<|Q.bi U U U<|Q.as U<|Q.nt<|?_
 refine S.cE U (λAr=>?_) (λAr=>?_)
 refine Q.rg<|Q.as U<|Q.nt<|UW.ret<|UQ.aH<|UQ.ax<|S.bK (λ_=>ak U U)<|?_
 focus (congr 2;unfold jL;(repeat' split)<;>omega;done)
 refine Q.rg<|Q.bi U U U<|Q.as U<|Q.nt<|?_
 refine S.cE U (λTE=>?_) (λTE=>?_)
 refine Q.rg<|Q.as U<|Q.nt<|UW.ret<|UQ.aH<|UQ.ax<|S.bK (λ_=>ak U U)<|?_
 focus (congr 2;unfold jL;(repeat' split)<;>omega;done)
 refine Q.rg<|Q.bi U U U<|Q.as U<|Q.nt<|?_
 refine S.cE U (λhc16=>?_) (λhc16=>?_)
 refine Q.rg<|Q.as U<|Q.nt<|UW.ret<|UQ.aH<|UQ.ax<|S.bK (λ_=>ak U U)<|?_
 focus (congr 2;unfold jL;(repeat' split)<;>omega;done)
 refine UW.skip<|UQ.aB<|UQ.then<|Q.rg<|Q.as U<|Q.nt<|UW.ret<|S.bK (λ_=>ak U U)<|?_
 focus (congr 2;unfold jL;(repeat' split)<;>omega;done)
def uj:ByteArray:=⟨#[34,92,8,9,10,12,13]⟩
def toB:ByteArray:=⟨#[34,92,98,116,110,102,114]⟩
theorem short_at:∀j:Fin 7,jL (eG uj (j.val:Int))=eG toB (j.val:Int):=by decide
theorem TF(c:Int)(h:∀i:Nat,i<7->¬eG uj (i:Int)=c):jL c=0:=by
 have h0:=h 0 (by decide);have h1:=h 1 (by decide);have h2:=h 2 (by decide);have h3:=h 3 (by decide);have h4:=h 4 (by decide);have h5:=h 5 (by decide);have h6:=h 6 (by decide)
 rw[show eG uj (0:Nat)=34 from by decide] at h0
 rw[show eG uj (1:Nat)=92 from by decide] at h1
 rw[show eG uj (2:Nat)=8 from by decide] at h2
 rw[show eG uj (3:Nat)=9 from by decide] at h3
 rw[show eG uj (4:Nat)=10 from by decide] at h4
 rw[show eG uj (5:Nat)=12 from by decide] at h5
 rw[show eG uj (6:Nat)=13 from by decide] at h6
 unfold jL;(repeat' split)<;>omega
theorem sG(c:Int)(H:Hp):au Tryz.prog 123 [.v (.int .u8 c)] H (bz H (.v (.int .u8 (jL c)))):=by
 refine aF (n:=14) (H0:=H) (I:=[]) Tryz.func123 (by kernel_rfl) U (by rw[Tryz.ntmps123];rfl) .nil<|?_
 refine Q.rg<|Q.as U<|Q.nt<|S.sq<|Q.rg<|Q.as U<|Q.nt<|UW.block<|S.loop (λj:Nat=>[(3,.v (.int .i64 (j:Int))),(0,.v (.int .u8 c))]) (λ_=>[]) (λj=>j<=7/\∀i:Nat,i<j->¬eG uj (i:Int)=c) (λj=>7-j) 0 ⟨Nat.zero_le _,λi h=>absurd h (by omega)⟩ ⟨rfl,rfl,trivial⟩ (.refl _)<|?_
 rintro j ⟨hj,hjj⟩
 have hf7:(uj.size:Int)=7:=rfl
 have ht7:(toB.size:Int)=7:=rfl
 by_cases hlt:j<7
 ·refine S.sq<|Q.rg<|Q.mv U<|Q.bi U U U<|Q.nt<|S.cT U (decide_eq_true (by omega))<|UW.skip<|UQ.then<|S.sq<|UW.block<|Q.rg<|Q.mv U<|S.qu (Z.is (p:=uj) Tryz.underlying9 U U (by omega) (by show _<(7:Int);omega))<|?_
  refine Q.mv U<|Q.bi U U U<|Q.nt<|?_
  refine S.cE U (λuu=>?_) (λuu=>?_)
  refine Q.rg<|Q.mv U<|S.qu (Z.is (p:=toB) Tryz.underlying9 U U (by omega) (by show _<(7:Int);omega))<|?_
  refine Q.as U<|Q.nt<|UW.ret<|UQ.aH<|UQ.ax<|UQ.ax<|UQ.aH<|UQ.ax<|S.bK (λ_=>ak U U)<|?_
  focus (first|(rw[<-uu,short_at ⟨j,hlt⟩])|exact⟨by omega,λi hi=>by by_cases h:i=j;(subst h;exact uu);exact hjj i (by omega)⟩;done)
  refine UW.skip<|UQ.aB<|UQ.then<|S.rg<|Q.mv U<|S.qu (Z.add (r:=((j+1:Nat):Int)) U U (IntWalk.i64_in _ (by omega)))<|Q.as U<|US.nil<|?_
  refine S.back _ ⟨rfl,rfl,trivial⟩ (.refl _) ?_ (by omega)
  focus (first|(rw[<-uu,short_at ⟨j,hlt⟩])|exact⟨by omega,λi hi=>by by_cases h:i=j;(subst h;exact uu);exact hjj i (by omega)⟩;done)
 ·refine S.sq<|Q.rg<|Q.mv U<|Q.bi U U U<|Q.nt<|S.cF U (decide_eq_false (by omega))<|UW.exit<|UQ.pass<|UQ.pass<|UQ.here<|UQ.then<|Q.rg<|Q.as U<|Q.nt<|UW.ret<|S.bK (λ_=>ak U U)<|?_
  focus (rw[TF c (λi hi=>hjj i (by omega))];done)
end Go.Proofs.YtonpfomjoiaacaaGreatDoor
end
