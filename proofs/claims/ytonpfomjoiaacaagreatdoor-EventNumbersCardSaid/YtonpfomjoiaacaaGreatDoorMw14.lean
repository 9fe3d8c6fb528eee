/- A part of the proof. -/
import Derived.Test.YtonpfomjoiaacaaGreatDoorMw13
import Derived.Test.YtonpfomjoiaacaaGreatDoorMw12
import Derived.Test.YtonpfomjoiaacaaGreatDoorMw10
set_option maxRecDepth 100000
set_option maxHeartbeats 4000000
set_option linter.unusedSectionVars false
set_option linter.unusedVariables false
set_option linter.unusedSimpArgs false
section
namespace Go.Proofs.YtonpfomjoiaacaaGreatDoor
open Go Go.iG Go.RowKit
def Dl(s:ByteArray):Nat->Nat->Int
 |0,_=> -1
 |f+1,pos=>if pos<s.size then(if lD (s.extract pos s.size)=0 then(pos:Int) else Dl s f (pos+(lD (s.extract pos s.size)).toNat)) else-1
def chkR(s:ByteArray):Int:=Dl s (s.size+1) 0
theorem Eh(s:ByteArray)(n:Nat)(l r0:Int):0<=kD s n l r0/\kD s n l r0<=n+1:=by
 unfold kD;repeat' split
 all_goals omega
theorem XJ(s:ByteArray):0<=lD s/\lD s<=s.size:=by
 unfold lD
 by_cases h0:s.size=0
 ·rw[if_pos h0];omega
 ·rw[if_neg h0]
  have b0:=Eh s 0 0 (bt s 0)
  have b1:=Eh s 1 128 ((bt s 0:Int).tmod 32)
  have b2:=Eh s 2 2048 ((bt s 0:Int).tmod 16)
  have b3:=Eh s 3 65536 ((bt s 0:Int).tmod 8)
  have hm:=Fu (bt s 0)
  repeat' split
  all_goals omega
theorem Nf(s:ByteArray)(hs:s.size<=4000000)(H:Hp):au Tryz.prog 158 [.v (.string s)] H (bB H (.v (.int .i64 (chkR s)))):=by
 refine aF (n:=19) (H0:=H) (I:=[]) Tryz.func158 (by kernel_rfl) U (by rw[Tryz.ntmps158];rfl) .nil<|?_
 refine Q.rg<|Q.as U<|Q.nt<|Q.rg<|Q.as U<|Q.nt<|UW.seq<|UW.block<|UW.loop (λp:Nat×Nat=>[(3,.v (.int .i64 (p.1:Int))),(0,.v (.string s))]) (λp=>[]) (λp=>p.1<=s.size/\s.size-p.1<p.2/\Dl s p.2 p.1=chkR s) (λp=>p.2) (0,s.size+1) ⟨Nat.zero_le _,by simp,rfl⟩ ⟨rfl,rfl,trivial⟩ (.refl _)<|?_
 rintro⟨pos,f⟩ ⟨hp,hf,hc⟩
 simp only at hp hf hc
 obtain⟨f,rfl⟩:∃f',f=f'+1:=⟨f-1,by omega⟩
 refine UW.seq<|Q.rg<|Q.mv U<|Q.mv U<|US.rE U (by decide) U U Tryz.underlying9 U<|Q.bi U U U<|Q.nt<|?_
 refine UW.cond U (λh=>?_) (λh=>?_)
 ·have h:=of_decide_eq_true h
  have hlt:pos<s.size:=by simp only at h;omega
  have hbd:=XJ (s.extract pos s.size)
  rw[ByteArray.size_extract] at hbd
  refine UW.skip<|UQ.then<|UW.block<|Q.rg<|Q.mv U<|Q.mv U<|US.pK U (by decide) U U Tryz.underlying9 U (.lo U) (by simp only;omega) (by omega)<|?_
  refine US.dL U (by decide) U U U U (λ_=>Vo _ (by rw[ByteArray.size_extract];omega) _)<|?_
  refine Q.as U<|Q.nt<|UW.seq<|Q.rg<|?_
  by_cases h0:lD (s.extract pos s.size)=0
  ·refine Q.mv U<|US.aA U (by decide) U U U U (r:=.bool true) (by(simp[eT,fe,h0];done))<|?_
   refine Q.nt<|?_
   refine UW.cond U (λ_=>?_) (λh=>absurd h (by simp))
   refine Q.rg<|Q.mv U<|Q.as U<|Q.nt<|UW.ret<|UQ.ax<|UQ.aI<|UQ.ax<|UQ.aI<|UQ.ax<|?_
   refine bR [] (λ_=>ak U U) (.refl _) λhd=>⟨?_,rfl⟩
   rw[<-hc,Dl,if_pos hlt,if_pos h0]
  ·refine Q.mv U<|US.aA U (by decide) U U U U (r:=.bool false) (by(simp[eT,fe,h0];done))<|?_
   refine Q.nt<|UW.cond U (λh=>absurd h (by simp)) λ_=>?_
   refine UW.skip<|UQ.then<|UW.region<|Q.mv U<|Q.mv U<|US.add U (by decide) U U U U (r:=((pos+(lD (s.extract pos s.size)).toNat:Nat):Int)) (Eq.trans (IntWalk.i64_in _ (by simp only;omega)) (by simp only;omega))<|?_
   refine Q.as U<|US.keep [(3,.v (.int .i64 ((pos+(lD (s.extract pos s.size)).toNat:Nat):Int))),(0,.v (.string s))] [] ⟨rfl,rfl,trivial⟩ (.refl _)<|US.nil<|UQ.aB<|?_
   exactλhd=>⟨(pos+(lD (s.extract pos s.size)).toNat,f),⟨by simp only;omega,by simp only;omega,by
    simp only
    rw[<-hc]
    conv=>rhs;rw[Dl,if_pos hlt,if_neg h0]⟩,by simp,hd,rfl,rfl⟩
 ·have h:=of_decide_eq_false h
  refine UW.exit<|UQ.pass<|UQ.pass<|UQ.here<|UQ.then<|Q.rg<|Q.as U<|Q.nt<|UW.ret<|?_
  refine bR [] (λ_=>ak U U) (.refl _) λhd=>⟨?_,rfl⟩
  rw[<-hc,Dl,if_neg (by simp only at h;omega)]
theorem iT(s:ByteArray)(pos k:Nat)(h:pos+k<s.size):bt (s.extract pos s.size) k=bt s (pos+k):=by
 rw[gW _ k (by rw[ByteArray.size_extract];omega),gW s (pos+k) h]
 congr 1
 simp[ByteArray.getElem_extract]
theorem cont_iff(b:Nat)(hb:b<256):(b/64==2)=(decide (128<=b)&&decide (b<=191)):=by
 rw[Bool.eq_iff_iff]
 simp only[beq_iff_eq,Bool.and_eq_true,decide_eq_true_eq]
 omega
def mZ(m B0 B1 B2 B3:Nat):Nat:=
 if B0<128 then 1
 else if 194<=B0/\B0<=223/\1<m/\128<=B1/\B1<=191 then 2
 else if 224<=B0/\B0<=239/\2<m/\128<=B1/\B1<=191/\128<=B2/\B2<=191/\2048<=64*(64*(B0 % 16)+B1 % 64)+B2 % 64/\¬(55296<=64*(64*(B0 % 16)+B1 % 64)+B2 % 64/\64*(64*(B0 % 16)+B1 % 64)+B2 % 64<=57343) then 3
 else if 240<=B0/\B0<=244/\3<m/\128<=B1/\B1<=191/\128<=B2/\B2<=191/\128<=B3/\B3<=191/\65536<=64*(64*(64*(B0 % 8)+B1 % 64)+B2 % 64)+B3 % 64/\64*(64*(64*(B0 % 8)+B1 % 64)+B2 % 64)+B3 % 64<=1114111 then 4
 else 0
theorem oneN_1(t:ByteArray)(l r0:Int):kD t 1 l r0=if dX t 1=true/\dC l (64*r0+(bt t 1:Int).tmod 64)=true then 2 else 0:=by
 unfold kD
 have:(List.range 1).all (λi=>dX t (i+1))=dX t 1:=by simp[List.range_succ]
 rw[this]
 cases h1:dX t 1<;>cases h2:dC l (kC t r0 1)<;>simp_all[kC]
theorem oneN_2(t:ByteArray)(l r0:Int):kD t 2 l r0=if (dX t 1=true/\dX t 2=true)/\dC l (64*(64*r0+(bt t 1:Int).tmod 64)+(bt t 2:Int).tmod 64)=true then 3 else 0:=by
 unfold kD
 have:(List.range 2).all (λi=>dX t (i+1))=(dX t 1&&dX t 2):=by simp[List.range_succ]
 rw[this]
 cases h1:dX t 1<;>cases h3:dX t 2<;>cases h2:dC l (kC t r0 2)<;>simp_all[kC]
theorem oneN_3(t:ByteArray)(l r0:Int):kD t 3 l r0=if (dX t 1=true/\dX t 2=true/\dX t 3=true)/\dC l (64*(64*(64*r0+(bt t 1:Int).tmod 64)+(bt t 2:Int).tmod 64)+(bt t 3:Int).tmod 64)=true then 4 else 0:=by
 unfold kD
 have:(List.range 3).all (λi=>dX t (i+1))=(dX t 1&&(dX t 2&&dX t 3)):=by simp[List.range_succ,Bool.and_assoc]
 rw[this]
 cases h1:dX t 1<;>cases h3:dX t 2<;>cases h4:dX t 3<;>cases h2:dC l (kC t r0 3)<;>simp_all[kC]
theorem Tj(t:ByteArray)(h:0<t.size):lD t=(mZ t.size (bt t 0) (bt t 1) (bt t 2) (bt t 3):Int):=by
 have b0:=ow t 0
 have b1:=ow t 1
 have b2:=ow t 2
 have b3:=ow t 3
 have e32:(bt t 0:Int).tmod 32=((bt t 0 % 32:Nat):Int):=rfl
 have e16:(bt t 0:Int).tmod 16=((bt t 0 % 16:Nat):Int):=rfl
 have e8:(bt t 0:Int).tmod 8=((bt t 0 % 8:Nat):Int):=rfl
 have e1:(bt t 1:Int).tmod 64=((bt t 1 % 64:Nat):Int):=rfl
 have e2:(bt t 2:Int).tmod 64=((bt t 2 % 64:Nat):Int):=rfl
 have e3:(bt t 3:Int).tmod 64=((bt t 3 % 64:Nat):Int):=rfl
 have e0:kD t 0 0 (bt t 0)=if dC 0 (bt t 0)=true then 1 else 0:=by unfold kD;simp[kC]
 have key:∀m:Int,nk (bt t 0)=m->(m<0->mZ t.size (bt t 0) (bt t 1) (bt t 2) (bt t 3)=0)->(0<=m->(t.size:Int)<=m->mZ t.size (bt t 0) (bt t 1) (bt t 2) (bt t 3)=0)->
  (m=0->kD t 0 0 (bt t 0)=(mZ t.size (bt t 0) (bt t 1) (bt t 2) (bt t 3):Int))->(m=1->m<t.size->kD t 1 128 ((bt t 0:Int).tmod 32)=(mZ t.size (bt t 0) (bt t 1) (bt t 2) (bt t 3):Int))->(m=2->m<t.size->kD t 2 2048 ((bt t 0:Int).tmod 16)=(mZ t.size (bt t 0) (bt t 1) (bt t 2) (bt t 3):Int))->
  (m=3->m<t.size->kD t 3 65536 ((bt t 0:Int).tmod 8)=(mZ t.size (bt t 0) (bt t 1) (bt t 2) (bt t 3):Int))->lD t=(mZ t.size (bt t 0) (bt t 1) (bt t 2) (bt t 3):Int):=by
  intro m hm k1 k2 q0 q1 q2 q3
  have hm3:=Fu (bt t 0)
  rw[hm] at hm3
  unfold lD
  rw[if_neg (by omega),hm]
  by_cases h1:m<0
  ·rw[if_pos h1,k1 h1];rfl
  ·rw[if_neg h1]
   by_cases h2:(t.size:Int)<=m
   ·rw[if_pos h2,k2 (by omega) h2];rfl
   ·rw[if_neg h2]
    by_cases h3:m=0
    ·rw[if_pos h3];exact q0 h3
    ·rw[if_neg h3]
     by_cases h4:m=1
     ·rw[if_pos h4];exact q1 h4 (by omega)
     ·rw[if_neg h4]
      by_cases h5:m=2
      ·rw[if_pos h5];exact q2 h5 (by omega)
      ·rw[if_neg h5];exact q3 (by omega) (by omega)
 have hmore:∀m:Int,(if (bt t 0:Int)<128 then(0:Int) else if 194<=(bt t 0:Int)/\(bt t 0:Int)<=223 then 1 else if 224<=(bt t 0:Int)/\(bt t 0:Int)<=239 then 2 else if 240<=(bt t 0:Int)/\(bt t 0:Int)<=244 then 3 else-1)=m->nk (bt t 0)=m:=λm h=>h
 refine key _ (hmore _ U) ?_ ?_ ?_ ?_ ?_ ?_
 all_goals (try rw[oneN_1]);(try rw[oneN_2]);(try rw[oneN_3]);(try rw[e0])
 all_goals (try rw[e32]);(try rw[e16]);(try rw[e8])
 all_goals (try rw[e1]);(try rw[e2]);(try rw[e3])
 all_goals unfold mZ
 all_goals (try unfold dC)
 all_goals (try unfold dX)
 all_goals generalize bt t 0=B0 at*
 all_goals generalize bt t 1=B1 at*
 all_goals generalize bt t 2=B2 at*
 all_goals generalize bt t 3=B3 at*
 all_goals generalize t.size=m at*
 all_goals (try simp only[Bool.and_eq_true,Bool.not_eq_true',Bool.and_eq_false_iff,decide_eq_true_eq,decide_eq_false_iff_not])
 all_goals clear key hmore e32 e16 e8 e1 e2 e3 e0
 ·intro h1
  repeat' split at h1
  all_goals first|omega|(repeat' split)<;>omega
 ·intro h1 h2
  repeat' split at h1
  all_goals first|omega|skip
  all_goals (repeat' split)<;>omega
 ·intro h1
  repeat' split at h1
  all_goals first|omega|(repeat' split)<;>omega
 ·intro h1 h2
  rw[h1] at h2
  repeat' split at h1
  all_goals first|omega|skip
  all_goals (repeat' split)<;>omega
 ·intro h1 h2
  rw[h1] at h2
  repeat' split at h1
  all_goals first|omega|skip
  all_goals (repeat' split)<;>omega
 ·intro h1 h2
  rw[h1] at h2
  repeat' split at h1
  all_goals first|omega|skip
  all_goals (repeat' split)<;>omega
theorem IU(s:ByteArray)(pos:Nat):Utf8.decode s pos=
 (if bt s pos<128 then(bt s pos,1)
  else if (bt s pos/32==6&&(decide (pos+1<s.size)&&bt s (pos+1)/64==2))=true then
   (if bt s pos % 32*64+bt s (pos+1)% 64>=128 then(bt s pos % 32*64+bt s (pos+1)% 64,2) else(65533,1))
  else if (bt s pos/16==14&&(decide (pos+1<s.size)&&bt s (pos+1)/64==2)&&(decide (pos+2<s.size)&&bt s (pos+2)/64==2))=true then
   (if (decide (bt s pos % 16*4096+bt s (pos+1)% 64*64+bt s (pos+2)% 64>=2048)&&Utf8.valid (bt s pos % 16*4096+bt s (pos+1)% 64*64+bt s (pos+2)% 64:Nat))=true then(bt s pos % 16*4096+bt s (pos+1)% 64*64+bt s (pos+2)% 64,3) else(65533,1))
  else if (bt s pos/8==30&&(decide (pos+1<s.size)&&bt s (pos+1)/64==2)&&(decide (pos+2<s.size)&&bt s (pos+2)/64==2)&&(decide (pos+3<s.size)&&bt s (pos+3)/64==2))=true then
   (if (decide (bt s pos % 8*262144+bt s (pos+1)% 64*4096+bt s (pos+2)% 64*64+bt s (pos+3)% 64>=65536)&&Utf8.valid (bt s pos % 8*262144+bt s (pos+1)% 64*4096+bt s (pos+2)% 64*64+bt s (pos+3)% 64:Nat))=true then(bt s pos % 8*262144+bt s (pos+1)% 64*4096+bt s (pos+2)% 64*64+bt s (pos+3)% 64,4) else(65533,1))
  else(65533,1)):=rfl
theorem XK(s:ByteArray)(pos:Nat)(h:pos<s.size)(hl:mZ (s.size-pos) (bt s pos) (bt s (pos+1)) (bt s (pos+2)) (bt s (pos+3))=0):
 Utf8.decode s pos=(65533,1)/\¬(3<=s.size-pos/\bt s pos=239/\bt s (pos+1)=191/\bt s (pos+2)=189):=by
 have b0:=ow s pos
 have b1:=ow s (pos+1)
 have b2:=ow s (pos+2)
 have b3:=ow s (pos+3)
 rw[IU]
 unfold mZ at hl
 unfold Utf8.valid
 generalize bt s pos=B0 at*
 generalize bt s (pos+1)=B1 at*
 generalize bt s (pos+2)=B2 at*
 generalize bt s (pos+3)=B3 at*
 simp only[Bool.and_eq_true,Bool.or_eq_true,beq_iff_eq,decide_eq_true_eq]
 repeat' split at hl
 all_goals first|omega|skip
 constructor
 ·repeat' split
  all_goals first|rfl|(exfalso;omega)
 ·omega
theorem Vp(s:ByteArray)(pos:Nat)(h:pos<s.size)(hl:mZ (s.size-pos) (bt s pos) (bt s (pos+1)) (bt s (pos+2)) (bt s (pos+3))≠0):
 (Utf8.decode s pos).2=mZ (s.size-pos) (bt s pos) (bt s (pos+1)) (bt s (pos+2)) (bt s (pos+3))/\((Utf8.decode s pos).1=65533->3<=s.size-pos/\bt s pos=239/\bt s (pos+1)=191/\bt s (pos+2)=189):=by
 have b0:=ow s pos
 have b1:=ow s (pos+1)
 have b2:=ow s (pos+2)
 have b3:=ow s (pos+3)
 rw[IU]
 unfold mZ at hl⊢
 unfold Utf8.valid
 generalize bt s pos=B0 at*
 generalize bt s (pos+1)=B1 at*
 generalize bt s (pos+2)=B2 at*
 generalize bt s (pos+3)=B3 at*
 simp only[Bool.and_eq_true,Bool.or_eq_true,beq_iff_eq,decide_eq_true_eq]
 repeat' split at hl
 all_goals first|omega|skip
 all_goals (repeat' split)
 all_goals omega
 all_goals (refine⟨by omega,λhc=>?_⟩)
 all_goals (simp only at hc)
 all_goals omega
theorem XL(t:ByteArray):pre t Im=true↔3<=t.size/\bt t 0=239/\bt t 1=191/\bt t 2=189:=by
 unfold pre
 rw[Bool.and_eq_true,decide_eq_true_eq,beq_iff_eq,Lib.extract_toList,Lib.toList_data]
 obtain⟨⟨l⟩⟩:=t
 match l with
 |[]=>simp[Im,ByteArray.size]
 |[a]=>simp[Im,ByteArray.size]
 |[a,b]=>simp[Im,ByteArray.size]
 |a::b::c::r=>
  have e0:bt ⟨⟨a::b::c::r⟩⟩ 0=a.toNat:=rfl
  have e1:bt ⟨⟨a::b::c::r⟩⟩ 1=b.toNat:=rfl
  have e2:bt ⟨⟨a::b::c::r⟩⟩ 2=c.toNat:=rfl
  rw[e0,e1,e2]
  have h3:(3:Nat)<=(ByteArray.mk (a::b::c::r).toArray).size:=by simp[ByteArray.size]
  have hs:Im.size=3:=rfl
  have he:Im.data.toList=[239,191,189]:=rfl
  rw[hs,he]
  have hu:∀(x:UInt8) (n:Nat) (hn:n<256),x=UInt8.ofNat n↔x.toNat=n:=by
   intro x n hn
   rw[<-UInt8.toNat_inj,UInt8.toNat_ofNat']
   omega
  constructor
  ·rintro⟨_,h⟩
   simp at h
   obtain⟨rfl,rfl,rfl⟩:=h
   exact⟨h3,rfl,rfl,rfl⟩
  ·rintro⟨_,q0,q1,q2⟩
   refine⟨h3,?_⟩
   have r0:=(hu a 239 (by decide)).2 q0
   have r1:=(hu b 191 (by decide)).2 q1
   have r2:=(hu c 189 (by decide)).2 q2
   subst r0 r1 r2
   rfl
theorem J7(s:ByteArray)(pos:Nat):(s.extract pos s.size).size=s.size-pos:=by rw[ByteArray.size_extract];omega
theorem PE{m B0 B1 B2 B3 C1 C2 C3:Nat}(h1:1<m->B1=C1)(h2:2<m->B2=C2)(h3:3<m->B3=C3):mZ m B0 B1 B2 B3=mZ m B0 C1 C2 C3:=by
 by_cases q3:3<m
 ·rw[h1 (by omega),h2 (by omega),h3 q3]
 ·by_cases q2:2<m
  ·rw[h1 (by omega),h2 q2]
   unfold mZ
   repeat' split
   all_goals first|rfl|omega
  ·by_cases q1:1<m
   ·rw[h1 q1]
    unfold mZ
    repeat' split
    all_goals first|rfl|omega
   ·unfold mZ
    repeat' split
    all_goals first|rfl|omega
theorem XM(s:ByteArray)(pos:Nat)(h:pos<s.size):lD (s.extract pos s.size)=(mZ (s.size-pos) (bt s pos) (bt s (pos+1)) (bt s (pos+2)) (bt s (pos+3)):Int):=by
 rw[Tj _ (by rw[J7];omega),J7,iT s pos 0 (by omega)]
 refine congrArg (λn:Nat=>(n:Int))<|?_
 exact PE (λh=>iT s pos 1 (by omega)) (λh=>iT s pos 2 (by omega)) (λh=>iT s pos 3 (by omega))
theorem XN(s:ByteArray)(pos:Nat)(h:pos<s.size):(Na s pos=true/\lD (s.extract pos s.size)=0)\/(Na s pos=false/\lD (s.extract pos s.size)≠0/\(lD (s.extract pos s.size)).toNat=(Utf8.decode s pos).2):=by
 have hpre:pre (s.extract pos s.size) Im=true↔3<=s.size-pos/\bt s pos=239/\bt s (pos+1)=191/\bt s (pos+2)=189:=by
  rw[XL,J7]
  constructor
  ·rintro⟨q,q0,q1,q2⟩
   rw[iT s pos 0 (by omega)] at q0
   rw[iT s pos 1 (by omega)] at q1
   rw[iT s pos 2 (by omega)] at q2
   exact⟨q,q0,q1,q2⟩
  ·rintro⟨q,q0,q1,q2⟩
   rw[iT s pos 0 (by omega),iT s pos 1 (by omega),iT s pos 2 (by omega)]
   exact⟨q,q0,q1,q2⟩
 rw[XM s pos h]
 by_cases hl:mZ (s.size-pos) (bt s pos) (bt s (pos+1)) (bt s (pos+2)) (bt s (pos+3))=0
 ·obtain⟨q1,q2⟩:=XK s pos h hl
  refine .inl ⟨?_,by rw[hl];rfl⟩
  have:pre (s.extract pos s.size) Im=false:=by
   cases hp:pre (s.extract pos s.size) Im with
   |false=>rfl
   |true=>exact absurd (hpre.1 hp) q2
  unfold Na
  rw[q1,this];rfl
 ·obtain⟨q1,q2⟩:=Vp s pos h hl
  refine .inr ⟨?_,by omega,by rw[q1];omega⟩
  unfold Na
  by_cases hc:(Utf8.decode s pos).1=65533
  ·rw[hpre.2 (q2 hc)];simp
  ·have:((Utf8.decode s pos).1==65533)=false:=by simpa using hc
   rw[this];rfl
theorem chk_eq(s:ByteArray):RN s=chkR s:=by
 have:∀f pos,XH s f pos=Dl s f pos:=by
  intro f
  induction f with
  |zero=>intro pos;rfl
  |succ f ih=>
   intro pos
   rw[XH,Dl]
   by_cases h:pos<s.size
   ·rw[if_pos h,if_pos h]
    rcases XN s pos h with ⟨q1,q2⟩|⟨q1,q2,q3⟩
    ·rw[if_pos q1,if_pos q2]
    ·rw[if_neg (by rw[q1];simp),if_neg q2,q3,ih]
   ·rw[if_neg h,if_neg h]
 exact this _ _
theorem Fv:∀(k:Nat) (l r:List UInt8),k<=l.length->k<=r.length->(∀j,j<k->l[j]? =r[j]?)->Lib.compareBytes l r=Lib.compareBytes (l.drop k) (r.drop k)
 |0,l,r,_,_,_=>by simp
 |k+1,[],r,h,_,_=>by simp at h
 |k+1,_::_,[],_,h,_=>by simp at h
 |k+1,a::l,b::r,h1,h2,h=>by
  have h0:=h 0 (by omega)
  simp at h0
  subst h0
  have:=Fv k l r (by simpa using h1) (by simpa using h2) (λj hj=>by simpa using h (j+1) (by omega))
  rw[List.drop_succ_cons,List.drop_succ_cons,<-this,Lib.compareBytes]
  simp
theorem iL(s:ByteArray)(k:Nat)(h:k<s.size):eO s (k:Int)=((s.data.toList[k]'(by simpa using h)).toNat:Int):=by
 unfold eO
 rw[dif_pos (by simpa using h)]
 rfl
theorem cmp_at(a b:ByteArray)(k:Nat)(ha:k<a.size)(hb:k<b.size)(h:∀j,j<k->eO a (j:Int)=eO b (j:Int))(hne:¬eO a (k:Int)=eO b (k:Int)):decide (Fj a b<0)=decide (eO a (k:Int)<eO b (k:Int)):=by
 have hal:k<a.data.toList.length:=by simpa using ha
 have hbl:k<b.data.toList.length:=by simpa using hb
 have e1:Fj a b=Lib.compareBytes (a.data.toList.drop k) (b.data.toList.drop k):=Fv k _ _ (by omega) (by omega) (λj hj=>by
  have:=h j hj
  rw[iL a j (by omega),iL b j (by omega)] at this
  rw[List.getElem?_eq_getElem (by omega),List.getElem?_eq_getElem (by omega)]
  congr 1
  exact UInt8.toNat_inj.1 (by omega))
 rw[iL a k ha,iL b k hb] at hne⊢
 rw[e1,List.drop_eq_getElem_cons hal,List.drop_eq_getElem_cons hbl,Lib.compareBytes]
 generalize a.data.toList[k]=p at hne⊢
 generalize b.data.toList[k]=q at hne⊢
 by_cases h1:p<q
 ·have:p.toNat<q.toNat:=h1
  rw[if_pos h1];simp[this]
 ·have h2:¬p.toNat<q.toNat:=h1
  have h3:q<p:=by show q.toNat<p.toNat;omega
  rw[if_neg h1,if_pos h3];simp;omega
theorem RP(a b:ByteArray)(k:Nat)(hk:k=min a.size b.size)(h:∀j,j<k->eO a (j:Int)=eO b (j:Int)):decide (Fj a b<0)=decide ((a.size:Int)<b.size):=by
 have hal:a.data.toList.length=a.size:=by simp
 have hbl:b.data.toList.length=b.size:=by simp
 have e1:Fj a b=Lib.compareBytes (a.data.toList.drop k) (b.data.toList.drop k):=Fv k _ _ (by omega) (by omega) (λj hj=>by
  have:=h j hj
  rw[iL a j (by omega),iL b j (by omega)] at this
  rw[List.getElem?_eq_getElem (by omega),List.getElem?_eq_getElem (by omega)]
  congr 1
  exact UInt8.toNat_inj.1 (by omega))
 rw[e1]
 by_cases h1:a.size<b.size
 ·have e2:a.data.toList.drop k=[]:=List.drop_eq_nil_of_le (by omega)
  have e3:k<b.data.toList.length:=by omega
  rw[e2,List.drop_eq_getElem_cons e3,Lib.compareBytes]
  simp;omega
 ·by_cases h2:a.size=b.size
  ·have e2:a.data.toList.drop k=[]:=List.drop_eq_nil_of_le (by omega)
   have e3:b.data.toList.drop k=[]:=List.drop_eq_nil_of_le (by omega)
   rw[e2,e3,Lib.compareBytes];simp;omega
  ·have e2:b.data.toList.drop k=[]:=List.drop_eq_nil_of_le (by omega)
   have e3:k<a.data.toList.length:=by omega
   rw[e2,List.drop_eq_getElem_cons e3,Lib.compareBytes]
   simp;omega
theorem uG(a b:ByteArray)(ha:a.size<=4000000)(H:Hp):au Tryz.prog 70 [.v (.string a),.v (.string b)] H (bB H (.v (.bool (eD a b)))):=by
 unfold eD
 refine aF (n:=37) (H0:=H) (I:=[]) Tryz.func70 (by kernel_rfl) U (by rw[Tryz.ntmps70];rfl) .nil<|?_
 refine Q.rg<|Q.as U<|Q.nt<|S.sq<|Q.rg<|Q.as U<|Q.nt<|UW.block<|S.loop (λk:Nat=>[(5,.v (.int .i64 (k:Int))),(0,.v (.string a)),(1,.v (.string b))]) (λ_=>[]) (λk=>k<=a.size/\k<=b.size/\∀j,j<k->eO a (j:Int)=eO b (j:Int)) (λk=>a.size-k) 0 ⟨Nat.zero_le _,Nat.zero_le _,λj h=>absurd h (by omega)⟩ ⟨rfl,rfl,rfl,trivial⟩ (.refl _)<|?_
 rintro k ⟨hk,hkb,hj⟩
 by_cases hlt:k<a.size
 ·by_cases hlt2:k<b.size
  ·by_cases hne:eO a (k:Int)=eO b (k:Int)
   ·focus
     refine S.sq<|Q.rg<|Q.mv U<|Q.mv U<|S.qu (Z.wm Tryz.underlying9 U)<|Q.bi U U U<|Q.mv U<|?_
     refine S.tD 10 (λzq=>?_) (λzq=>?_)
     rotate_left
     omega
     refine Q.on (Z.mv U)<|Q.on (Z.mv U)<|Q.on (Z.wm Tryz.underlying9 U)<|Q.on (Z.bi U U U)<|Q.pk U U<|Q.nt<|S.cT U (decide_eq_true (by omega))<|UW.skip<|UQ.then<|S.sq<|UW.block<|S.sq<|?_
     refine' UW.bG (by kernel_rfl) [0,0,3,0,0,24,63] [some 18,some 19,some 20,some 21,some 22,some 23,some 24] [some (18,_),some (19,_),some (20,_),some (21,_),some (22,_),some (23,_),some (24,_)] [] [] U (by decide) (by decide) (M.free (by decide) U U ?iU (M.free (by decide) U U ?iV (M.free (by decide) U U ?iW (M.free (by decide) U U ?iX (M.free (by decide) U U ?iY (M.free (by decide) U U ?iZ (M.free (by decide) U U ?ja M.nil))))))) ?sI
     case iU=>(intro _;exact Z.mv rfl)
     case iV=>(intro _;exact Z.mv rfl)
     case iW=>(intro _;exact Z.is Tryz.underlying9 rfl rfl (by omega) (by omega))
     case iX=>(intro _;exact Z.mv rfl)
     case iY=>(intro _;exact Z.mv rfl)
     case iZ=>(intro _;exact Z.is Tryz.underlying9 rfl rfl (by omega) (by omega))
     case ja=>(intro _;exact Z.bi rfl rfl rfl)
     refine CH.nil<|?_
     simp only[app,bS]
     refine UQ.then<|S.cF U (mJ (by omega))<|UW.skip<|UQ.aB<|UQ.then<|S.rg<|Q.mv U<|S.qu (Z.add (r:=((k+1:Nat):Int)) U U (IntWalk.i64_in _ (by omega)))<|Q.as U<|US.nil<|?_
     refine S.back _ ⟨rfl,rfl,rfl,trivial⟩ (.refl _) ?_ (by omega)
    refine⟨by omega,by omega,λj h3=>?_⟩
    by_cases hjk:j=k
    ·subst hjk;exact hne
    ·exact hj j (by omega)
   ·focus
     refine S.sq<|Q.rg<|Q.mv U<|Q.mv U<|S.qu (Z.wm Tryz.underlying9 U)<|Q.bi U U U<|Q.mv U<|?_
     refine S.tD 10 (λzq=>?_) (λzq=>?_)
     rotate_left
     omega
     refine Q.on (Z.mv U)<|Q.on (Z.mv U)<|Q.on (Z.wm Tryz.underlying9 U)<|Q.on (Z.bi U U U)<|Q.pk U U<|Q.nt<|S.cT U (decide_eq_true (by omega))<|UW.skip<|UQ.then<|S.sq<|UW.block<|S.sq<|?_
     refine' UW.bG (by kernel_rfl) [0,0,3,0,0,24,63] [some 18,some 19,some 20,some 21,some 22,some 23,some 24] [some (18,_),some (19,_),some (20,_),some (21,_),some (22,_),some (23,_),some (24,_)] [] [] U (by decide) (by decide) (M.free (by decide) U U ?jG (M.free (by decide) U U ?jH (M.free (by decide) U U ?jI (M.free (by decide) U U ?jJ (M.free (by decide) U U ?jK (M.free (by decide) U U ?kE (M.free (by decide) U U ?nK M.nil))))))) ?uH
     case jG=>(intro _;exact Z.mv rfl)
     case jH=>(intro _;exact Z.mv rfl)
     case jI=>(intro _;exact Z.is Tryz.underlying9 rfl rfl (by omega) (by omega))
     case jJ=>(intro _;exact Z.mv rfl)
     case jK=>(intro _;exact Z.mv rfl)
     case kE=>(intro _;exact Z.is Tryz.underlying9 rfl rfl (by omega) (by omega))
     case nK=>(intro _;exact Z.bi rfl rfl rfl)
     refine CH.nil<|?_
     simp only[app,bS]
     refine UQ.then<|S.cT U (rP (by omega))<|S.sq<|?_
     refine' UW.bG (by kernel_rfl) [0,0,3,0,0,24,63,127] [some 25,some 26,some 27,some 28,some 29,some 30,some 31,some 4] [some (25,_),some (26,_),some (27,_),some (28,_),some (29,_),some (30,_),some (31,_),some (4,_)] [] [] U (by decide) (by decide) (M.free (by decide) U U ?PG (M.free (by decide) U U ?PH (M.free (by decide) U U ?PI (M.free (by decide) U U ?PK (M.free (by decide) U U ?PL (M.free (by decide) U U ?PM (M.free (by decide) U U ?PN (M.free (by decide) U U ?PO M.nil)))))))) ?q2x1_k
     case PG=>(intro _;exact Z.mv rfl)
     case PH=>(intro _;exact Z.mv rfl)
     case PI=>(intro _;exact Z.is Tryz.underlying9 rfl rfl (by omega) (by omega))
     case PK=>(intro _;exact Z.mv rfl)
     case PL=>(intro _;exact Z.mv rfl)
     case PM=>(intro _;exact Z.is Tryz.underlying9 rfl rfl (by omega) (by omega))
     case PN=>(intro _;exact Z.bi rfl rfl rfl)
     case PO=>(intro _;exact Z.as rfl)
     refine CH.nil<|?_
     simp only[app,bS]
     refine UQ.then<|UW.ret<|UQ.aI<|UQ.ax<|UQ.ax<|UQ.aI<|UQ.ax<|S.bH (λ_=>ak U U)<|?_
    rw[cmp_at a b k hlt hlt2 hj hne]
  ·focus
    refine S.sq<|Q.rg<|Q.mv U<|Q.mv U<|S.qu (Z.wm Tryz.underlying9 U)<|Q.bi U U U<|Q.mv U<|?_
    refine S.tD 10 (λzq=>?_) (λzq=>?_)
    rotate_left
    omega
    refine Q.on (Z.mv U)<|Q.on (Z.mv U)<|Q.on (Z.wm Tryz.underlying9 U)<|Q.on (Z.bi U U U)<|Q.pk U U<|Q.nt<|S.cF U (decide_eq_false (by omega))<|UW.exit<|UQ.pass<|UQ.pass<|UQ.here<|UQ.then<|Q.rg<|Q.mv U<|S.qu (Z.wm Tryz.underlying9 U)<|Q.mv U<|S.qu (Z.wm Tryz.underlying9 U)<|Q.bi U U U<|Q.as U<|Q.nt<|UW.ret<|S.bH (λ_=>ak U U)<|?_
   rw[RP a b k (by omega) hj]
 ·refine S.sq<|Q.rg<|Q.mv U<|Q.mv U<|S.qu (Z.wm Tryz.underlying9 U)<|Q.bi U U U<|Q.mv U<|?_
  refine S.tD 10 (λzq=>?_) (λzq=>?_)
  omega
  refine Q.of<|Q.of<|Q.of<|Q.of<|Q.pk U U<|Q.nt<|S.cF U U<|UW.exit<|UQ.pass<|UQ.pass<|UQ.here<|UQ.then<|Q.rg<|Q.mv U<|S.qu (Z.wm Tryz.underlying9 U)<|Q.mv U<|S.qu (Z.wm Tryz.underlying9 U)<|Q.bi U U U<|Q.as U<|Q.nt<|UW.ret<|S.bH (λ_=>ak U U)<|?_
  rw[RP a b k (by omega) hj]
theorem sJ(l r:List ByteArray)(hl:l.length<=1000000)(H:Hp):au Tryz.prog 71 [strs l,strs r] H (bB H (.v (.bool (mh uF l r)))):=by
 have yE:(l.map encS).length=l.length:=List.length_map ..
 have hmr:(r.map encS).length=r.length:=List.length_map ..
 refine aF (n:=26) (H0:=H) (I:=[]) Tryz.func71 (by kernel_rfl) U (by rw[Tryz.ntmps71];rfl) .nil<|?_
 by_cases hlen:l.length=r.length
 ·refine Q.rg<|Q.as U<|Q.nt<|S.sq<|Q.rg<|Q.mv U<|S.qu (Z.fM aZ U)<|Q.mv U<|S.qu (Z.fM aZ U)<|Q.bi U U U<|Q.nt<|S.cF U (mJ (by omega))<|UW.skip<|UQ.then<|S.sq<|Q.rg<|Q.as U<|Q.nt<|UW.block<|S.loop (λk:Nat=>[(5,.v (.int .i64 (k:Int))),(0,strs l),(1,strs r)]) (λ_=>[]) (λk=>k<=l.length/\∀(j:Nat) (h:j<l.length) (h':j<r.length),j<k->uF l[j] r[j]=true) (λk=>l.length-k) 0 ⟨Nat.zero_le _,λj _ _ h=>absurd h (by omega)⟩ ⟨rfl,rfl,rfl,trivial⟩ (.refl _)<|?_
  rintro k ⟨hk,hj⟩
  by_cases hlt:k<l.length
  ·have hgr:=eY r k (by omega)
   focus
    refine S.sq<|Q.rg<|Q.mv U<|Q.mv U<|S.qu (Z.fM aZ U)<|Q.bi U U U<|Q.nt<|S.cT U (decide_eq_true (by omega))<|UW.skip<|UQ.then<|S.sq<|UW.block<|S.sq<|?_
    refine' UW.bG (by kernel_rfl) [0,0,3,7,0,0,48,112,255] [some 17,some 18,some 19,some 20,some 21,some 22,some 23,some 24,some 25] [some (17,_),some (18,_),some (19,_),some (20,_),some (21,_),some (22,_),some (23,_),some (24,_),some (25,_)] [] [3,7] U (by decide) (by decide) (M.free (by decide) U U ?zw (M.free (by decide) U U ?uI (M.free (by decide) U U ?uJ (M.held (by decide) U U ?zx (M.free (by decide) U U ?zy (M.free (by decide) U U ?zz (M.free (by decide) U U ?zA (M.held (by decide) U U ?zB (M.free (by decide) U U ?zC M.nil))))))))) ?J8
    case zw=>(intro _;exact Z.mv rfl)
    case uI=>(intro _;exact Z.mv rfl)
    case uJ=>(intro _;exact Z.ia aZ rfl rfl (by omega) (eY _ _ (by omega)) (by rfl))
    case zx=>exact Z.fO dW rfl
    case zy=>(intro _;exact Z.mv rfl)
    case zz=>(intro _;exact Z.mv rfl)
    case zA=>(intro _;exact Z.ia aZ rfl rfl (by omega) (by assumption) (by rfl))
    case zB=>exact Z.fO dW rfl
    case zC=>(intro _;exact Z.bs rfl rfl rfl)
    refine CH.nil<|?_
    simp only[app,bS]
    refine UQ.then<|?_
    refine S.cO U (λhc25=>?_) (λhc25=>?_)
    refine Q.rg<|Q.as U<|Q.nt<|UW.ret<|UQ.aI<|UQ.ax<|UQ.ax<|UQ.aI<|UQ.ax<|S.bH (λ_=>ak U U)<|?_
    rotate_left
    refine UW.skip<|UQ.aB<|UQ.then<|S.rg<|Q.mv U<|S.qu (Z.add (r:=((k+1:Nat):Int)) U U (IntWalk.i64_in _ (by omega)))<|Q.as U<|US.nil<|?_
    refine S.back _ ⟨rfl,rfl,rfl,trivial⟩ (.refl _) ?_ (by omega)
    rotate_left
   ·rw[AQ k hlt (by omega) (by unfold uF;simpa using hc25)]
   ·refine⟨by omega,λj h3 h4 h5=>?_⟩
    by_cases hjk:j=k
    ·subst hjk;unfold uF;simpa using hc25
    ·exact hj j h3 h4 (by omega)
  ·refine S.sq<|Q.rg<|Q.mv U<|Q.mv U<|S.qu (Z.fM aZ U)<|Q.bi U U U<|Q.nt<|S.cF U (decide_eq_false (by omega))<|UW.exit<|UQ.pass<|UQ.pass<|UQ.here<|UQ.then<|Q.rg<|Q.as U<|Q.nt<|UW.ret<|S.bH (λ_=>ak U U)<|?_
   rw[nI hlen (λi h1 h2=>hj i h1 h2 (by omega))]
 ·refine Q.rg<|Q.as U<|Q.nt<|S.sq<|Q.rg<|Q.mv U<|S.qu (Z.fM aZ U)<|Q.mv U<|S.qu (Z.fM aZ U)<|Q.bi U U U<|Q.nt<|S.cT U (rP (by omega))<|Q.rg<|Q.as U<|Q.nt<|UW.ret<|UQ.ax<|S.bH (λ_=>ak U U)<|?_
  rw[wT hlen]
def kF(c:Int):Int:=if c=34 then 34 else if c=92 then 92 else if c=8 then 98 else if c=9 then 116 else if c=10 then 110 else if c=12 then 102 else if c=13 then 114 else 0
theorem Ng(c:Int):0<=kF c/\kF c<256:=by unfold kF;(repeat' split)<;>omega
theorem Ci(c:Int)(H:Hp):au Tryz.prog 142 [.v (.int .u8 c)] H (bB H (.v (.int .u8 (kF c)))):=by
 refine aF (n:=18) (H0:=H) (I:=[]) Tryz.func142 (by kernel_rfl) U (by rw[Tryz.ntmps142];rfl) .nil<|?_
 refine Q.rg<|Q.as U<|Q.nt<|S.sq<|Q.rg<|Q.mv U<|Q.nt<|UW.block<|S.sq<|Q.rg<|Q.bi U U U<|Q.as U<|Q.nt<|?_
 refine S.cE U (λhc4=>?_) (λhc4=>?_)
 refine UW.skip<|UQ.then<|S.cT U (jP (by omega))<|Q.rg<|Q.mv U<|Q.as U<|Q.nt<|UW.ret<|UQ.aI<|UQ.ax<|S.bH (λ_=>ak U U)<|?_
 focus (congr 2;unfold kF;(repeat' split)<;>omega;done)
 refine S.rg<|Q.bi U U U<|Q.as U<|Q.nt<|?_
 refine S.cE U (λhc4=>?_) (λhc4=>?_)
 refine Q.rg<|Q.mv U<|Q.as U<|Q.nt<|UW.ret<|UQ.aI<|UQ.ax<|S.bH (λ_=>ak U U)<|?_
 focus (congr 2;unfold kF;(repeat' split)<;>omega;done)
 refine Q.rg<|Q.bi U U U<|Q.as U<|Q.nt<|?_
 refine S.cE U (λhc8=>?_) (λhc8=>?_)
 refine Q.rg<|Q.as U<|Q.nt<|UW.ret<|UQ.aI<|UQ.ax<|S.bH (λ_=>ak U U)<|?_
 focus (congr 2;unfold kF;(repeat' split)<;>omega;done)
 refine Q.rg<|Q.bi U U U<|Q.as U<|Q.nt<|?_
 refine S.cE U (λzq=>?_) (λzq=>?_)
 refine Q.rg<|Q.as U<|Q.nt<|UW.ret<|UQ.aI<|UQ.ax<|S.bH (λ_=>ak U U)<|?_
 focus (congr 2;unfold kF;(repeat' split)<;>omega;done)
 refine Q.rg<|Q.bi U U U<|Q.as U<|Q.nt<|?_
 refine S.cE U (λCj=>?_) (λCj=>?_)
 refine Q.rg<|Q.as U<|Q.nt<|UW.ret<|UQ.aI<|UQ.ax<|S.bH (λ_=>ak U U)<|?_
 focus (congr 2;unfold kF;(repeat' split)<;>omega;done)
 refine Q.rg<|Q.bi U U U<|Q.as U<|Q.nt<|?_
 refine S.cE U (λVq=>?_) (λVq=>?_)
 refine Q.rg<|Q.as U<|Q.nt<|UW.ret<|UQ.aI<|UQ.ax<|S.bH (λ_=>ak U U)<|?_
 focus (congr 2;unfold kF;(repeat' split)<;>omega;done)
 refine Q.rg<|Q.bi U U U<|Q.as U<|Q.nt<|?_
 refine S.cE U (λhc16=>?_) (λhc16=>?_)
 refine Q.rg<|Q.as U<|Q.nt<|UW.ret<|UQ.aI<|UQ.ax<|S.bH (λ_=>ak U U)<|?_
 focus (congr 2;unfold kF;(repeat' split)<;>omega;done)
 refine UW.skip<|UQ.aB<|UQ.then<|Q.rg<|Q.as U<|Q.nt<|UW.ret<|S.bH (λ_=>ak U U)<|?_
 focus (congr 2;unfold kF;(repeat' split)<;>omega;done)
def vT:ByteArray:=⟨#[34,92,8,9,10,12,13]⟩
def toB:ByteArray:=⟨#[34,92,98,116,110,102,114]⟩
theorem short_at:∀j:Fin 7,kF (eO vT (j.val:Int))=eO toB (j.val:Int):=by decide
theorem Vr(c:Int)(h:∀i:Nat,i<7->¬eO vT (i:Int)=c):kF c=0:=by
 have h0:=h 0 (by decide);have h1:=h 1 (by decide);have h2:=h 2 (by decide);have h3:=h 3 (by decide);have h4:=h 4 (by decide);have h5:=h 5 (by decide);have h6:=h 6 (by decide)
 rw[show eO vT (0:Nat)=34 from by decide] at h0
 rw[show eO vT (1:Nat)=92 from by decide] at h1
 rw[show eO vT (2:Nat)=8 from by decide] at h2
 rw[show eO vT (3:Nat)=9 from by decide] at h3
 rw[show eO vT (4:Nat)=10 from by decide] at h4
 rw[show eO vT (5:Nat)=12 from by decide] at h5
 rw[show eO vT (6:Nat)=13 from by decide] at h6
 unfold kF;(repeat' split)<;>omega
theorem uK(c:Int)(H:Hp):au Tryz.prog 123 [.v (.int .u8 c)] H (bB H (.v (.int .u8 (kF c)))):=by
 refine aF (n:=14) (H0:=H) (I:=[]) Tryz.func123 (by kernel_rfl) U (by rw[Tryz.ntmps123];rfl) .nil<|?_
 refine Q.rg<|Q.as U<|Q.nt<|S.sq<|Q.rg<|Q.as U<|Q.nt<|UW.block<|S.loop (λj:Nat=>[(3,.v (.int .i64 (j:Int))),(0,.v (.int .u8 c))]) (λ_=>[]) (λj=>j<=7/\∀i:Nat,i<j->¬eO vT (i:Int)=c) (λj=>7-j) 0 ⟨Nat.zero_le _,λi h=>absurd h (by omega)⟩ ⟨rfl,rfl,trivial⟩ (.refl _)<|?_
 rintro j ⟨hj,hjj⟩
 have hf7:(vT.size:Int)=7:=rfl
 have ht7:(toB.size:Int)=7:=rfl
 by_cases hlt:j<7
 ·refine S.sq<|Q.rg<|Q.mv U<|Q.bi U U U<|Q.nt<|S.cT U (decide_eq_true (by omega))<|UW.skip<|UQ.then<|S.sq<|UW.block<|Q.rg<|Q.mv U<|S.qu (Z.is (p:=vT) Tryz.underlying9 U U (by omega) (by show _<(7:Int);omega))<|?_
  refine Q.mv U<|Q.bi U U U<|Q.nt<|?_
  refine S.cE U (λvY=>?_) (λvY=>?_)
  refine Q.rg<|Q.mv U<|S.qu (Z.is (p:=toB) Tryz.underlying9 U U (by omega) (by show _<(7:Int);omega))<|?_
  refine Q.as U<|Q.nt<|UW.ret<|UQ.aI<|UQ.ax<|UQ.ax<|UQ.aI<|UQ.ax<|S.bH (λ_=>ak U U)<|?_
  focus (first|(rw[<-vY,short_at ⟨j,hlt⟩])|exact⟨by omega,λi hi=>by by_cases h:i=j;(subst h;exact vY);exact hjj i (by omega)⟩;done)
  refine UW.skip<|UQ.aB<|UQ.then<|S.rg<|Q.mv U<|S.qu (Z.add (r:=((j+1:Nat):Int)) U U (IntWalk.i64_in _ (by omega)))<|Q.as U<|US.nil<|?_
  refine S.back _ ⟨rfl,rfl,trivial⟩ (.refl _) ?_ (by omega)
  focus (first|(rw[<-vY,short_at ⟨j,hlt⟩])|exact⟨by omega,λi hi=>by by_cases h:i=j;(subst h;exact vY);exact hjj i (by omega)⟩;done)
 ·refine S.sq<|Q.rg<|Q.mv U<|Q.bi U U U<|Q.nt<|S.cF U (decide_eq_false (by omega))<|UW.exit<|UQ.pass<|UQ.pass<|UQ.here<|UQ.then<|Q.rg<|Q.as U<|Q.nt<|UW.ret<|S.bH (λ_=>ak U U)<|?_
  focus (rw[Vr c (λi hi=>hjj i (by omega))];done)
def wV:ByteArray:=⟨#[48,49,50,51,52,53,54,55,56,57,97,98,99,100,101,102]⟩
def uS:ByteArray:=⟨#[92,117,48,48]⟩
def yF(x:ByteArray)(c:Int):ByteArray:=if kF c≠0 then(x++aN 92)++aN (kF c) else if c<32 then((x++uS)++aN (eO wV (c/16)))++aN (eO wV (c % 16)) else x++aN c
def eZ(s:ByteArray):Nat->ByteArray
 |0=>⟨#[]⟩++aN 34
 |k+1=>yF (eZ s k) (eO s (k:Int))
def kG(s:ByteArray):ByteArray:=eZ s s.size++aN 34
theorem Tk(x:ByteArray)(c:Int):(yF x c).size<=x.size+6:=by
 unfold yF
 (repeat' split)<;>simp only[bf,aU]<;>have:uS.size=4:=rfl<;>omega
theorem rU(s:ByteArray):∀k,(eZ s k).size<=6*k+1
 |0=>by show(⟨#[]⟩++aN 34:ByteArray).size<=_;rw[bf,aU];exact Nat.le_refl 1
 |k+1=>by have:=rU s k;have h2:=Tk (eZ s k) (eO s (k:Int));show(yF _ _).size<=_;omega
theorem wW(s:ByteArray):(kG s).size<=6*s.size+2:=by have:=rU s s.size;unfold kG;rw[bf,aU];omega
theorem and15(c:Int)(h0:0<=c)(h1:c<256):IntKind.u8.wrap ((BitVec.ofInt IntKind.u8.bits c&&&BitVec.ofInt IntKind.u8.bits 15).toNat)=c % 16:=by
 have h:∀n:Fin 256,IntKind.u8.wrap ((BitVec.ofInt IntKind.u8.bits (n.val:Int)&&&BitVec.ofInt IntKind.u8.bits 15).toNat)=(n.val:Int)% 16:=by decide
 have:=h ⟨c.toNat,by omega⟩
 rwa [show(((⟨c.toNat,by omega⟩:Fin 256).val:Nat):Int)=c from by show((c.toNat:Nat):Int)=c;omega] at this
theorem shr4(c:Int):c.fdiv 16=c/16:=Int.fdiv_eq_ediv_of_nonneg _ (by decide)
theorem kU(p r:Nat)(a:AV)(ha:Adr p a)(s s':ByteArray)(hs:s.size<=100000000000000)(c:Int)(h0:0<=c)(h1:c<256)(h:s++aN c=s')(G:Hp)(hd:aP G (xV p r a s)):au Tryz.prog 141 [.ptr p 0,.v (.int .u8 c)] (aD G (xV p r a s)) (λu H'=>∃news,aP G news/\H'=aD G news/\BldR p s' (.v .nilIface) u news):=by
 subst h;exact qo p r a ha s hs c h0 h1 G hd
theorem Fw(s:ByteArray)(hs:s.size<=1000000000000)(H:Hp):au Tryz.prog 101 [.v (.string s)] H (bB H (.v (.string (kG s)))):=by
 refine aF (n:=41) (H0:=H) (I:=[]) Tryz.func101 (by kernel_rfl) U (by rw[Tryz.ntmps101];rfl) .nil<|?_
 refine Q.rg<|Q.as U<|Q.nt<|Q.rg<|S.dd<|D.alp z141 U U λp=>?_
 (refine US.rR (sz:=1) 0 1 5 (by decide) U U (λr0=>?_);simp only[List.set_cons_zero,List.set_cons_succ])
 refine Q.nt<|Q.rg<|S.dd<|D.co (.cons 0 U (.cons 0 U .nil)) U U (λG hD=>kU p r0 (.v (.pointer none)) (.inl U) ⟨#[]⟩ (eZ s 0) (by decide) 34 (by decide) (by decide) U G hD)<|?_
 (rintro _ _ ⟨rfl,r1,rfl⟩;simp only[xV,List.cons_append,List.nil_append])
 refine Q.nt<|S.sq<|Q.rg<|Q.mv U<|S.qu (Z.wm Tryz.underlying9 U)<|Q.mv U<|Q.nt<|UW.block<|S.loop (λj:Nat×Nat=>[(10,.v (.int .i64 (j.1:Int))),(9,.v (.int .i64 (s.size:Int))),(3,.ptr p 0),(0,.v (.string s))]) (λj=>xV p j.2 (.ptr p 0) (eZ s j.1)) (λj=>j.1<=s.size) (λj=>s.size-j.1) (0,r1) (Nat.zero_le _) ⟨rfl,rfl,rfl,rfl,trivial⟩ (.refl _)<|?_
 rintro⟨j,r⟩ hj
 simp only at hj
 have hN:=rU s j
 have hb:=ql s (j:Int)
 have hsb:=Ng (eO s (j:Int))
 simp only[xV]
 by_cases hlt:j<s.size
 ·by_cases hq:kF (eO s (j:Int))=0
  ·by_cases hq2:eO s (j:Int)<32
   ·have hst:eZ s (j+1)=((eZ s j++uS)++aN (eO wV (eO s (j:Int)/16)))++aN (eO wV (eO s (j:Int)% 16)):=by show yF _ _=_;unfold yF;rw[if_neg (λh=>h hq),if_pos hq2]
    have hx1:=ql wV (eO s (j:Int)/16)
    have hx2:=ql wV (eO s (j:Int)% 16)
    have hz1:(eZ s j++uS).size<=100000000000000:=by rw[bf];have:uS.size=4:=rfl;omega
    have hz2:((eZ s j++uS)++aN (eO wV (eO s (j:Int)/16))).size<=100000000000000:=by rw[bf,aU,bf];have:uS.size=4:=rfl;omega
    refine Q.rg<|Q.bi U U U<|Q.nt<|S.sq<|S.cT U (decide_eq_true (by omega))<|UW.skip<|UQ.then<|S.sq<|UW.block<|Q.rg<|Q.mv U<|Q.as U<|Q.nt<|Q.rg<|Q.mv U<|Q.mv U<|S.dd<|D.ib Tryz.underlying9 U U (by omega) (by omega) λh15=>Q.as U<|Q.nt<|Q.rg<|Q.mv U<|S.qu (Z.eq (u':=.v (.int .u8 0)) (Z.call U U (λ_=>Ci _ _)) (by rw[hq]))<|?_
    refine Q.as U<|Q.nt<|UW.block<|Q.rg<|Q.mv U<|Q.bi U U U<|Q.as U<|Q.nt<|S.cF U (mJ (by omega))<|Q.rg<|Q.mv U<|Q.bi U U U<|Q.as U<|Q.nt<|S.cT U (decide_eq_true (by omega))<|Q.rg<|S.dd<|D.co (.cons 0 U (.cons 0 U .nil)) U U (λG hD=>Ce p r (.ptr p 0) (.inr U) (eZ s j) (by omega) uS (by decide) G hD)<|?_
    (rintro _ _ ⟨rfl,r2,rfl⟩;simp only[xV,List.cons_append,List.nil_append])
    refine Q.nt<|Q.rg<|Q.mv U<|S.qu (Z.shr (r:=eO s (j:Int)/16) U U (by decide) (shr4 _))<|S.qu (Z.is (p:=wV) Tryz.underlying9 U U (by omega) (by show _<(16:Int);omega))<|?_
    refine S.dd<|D.co (.cons 0 U (.cons 0 U .nil)) U U (λG hD=>qo p r2 (.ptr p 0) (.inr U) _ hz1 _ hx1.1 hx1.2 G hD)<|?_
    (rintro _ _ ⟨rfl,r3,rfl⟩;simp only[xV,List.cons_append,List.nil_append])
    refine Q.nt<|S.rg<|Q.mv U<|S.qu (Z.eq (u':=.v (.int .u8 (eO s (j:Int)% 16))) (Z.bi U U U) (by rw[and15 _ hb.1 hb.2]))<|?_
    refine S.qu (Z.is (p:=wV) Tryz.underlying9 U U (by omega) (by show _<(16:Int);omega))<|?_
    refine S.dd<|D.co (.cons 0 U (.cons 0 U .nil)) U U (λG hD=>kU p r3 (.ptr p 0) (.inr U) _ (eZ s (j+1)) hz2 _ hx2.1 hx2.2 hst.symm G hD)<|?_
    (rintro _ _ ⟨rfl,r4,rfl⟩;simp only[xV,List.cons_append,List.nil_append])
    refine US.nil<|UQ.aB<|UQ.aB<|UQ.then<|S.rg<|S.qu (Z.add (r:=((j+1:Nat):Int)) U U (IntWalk.i64_in _ (by omega)))<|Q.mv U<|US.nil<|?_
    refine S.back (j+1,r4) ⟨rfl,rfl,rfl,rfl,trivial⟩ (.refl _) (by omega) (by omega)
   ·have hst:eZ s (j+1)=eZ s j++aN (eO s (j:Int)):=by show yF _ _=_;unfold yF;rw[if_neg (λh=>h hq),if_neg hq2]
    refine Q.rg<|Q.bi U U U<|Q.nt<|S.sq<|S.cT U (decide_eq_true (by omega))<|UW.skip<|UQ.then<|S.sq<|UW.block<|Q.rg<|Q.mv U<|Q.as U<|Q.nt<|Q.rg<|Q.mv U<|Q.mv U<|S.dd<|D.ib Tryz.underlying9 U U (by omega) (by omega) λh15=>Q.as U<|Q.nt<|Q.rg<|Q.mv U<|S.qu (Z.eq (u':=.v (.int .u8 0)) (Z.call U U (λ_=>Ci _ _)) (by rw[hq]))<|?_
    refine Q.as U<|Q.nt<|UW.block<|Q.rg<|Q.mv U<|Q.bi U U U<|Q.as U<|Q.nt<|S.cF U (mJ (by omega))<|Q.rg<|Q.mv U<|Q.bi U U U<|Q.as U<|Q.nt<|S.cF U (decide_eq_false (by omega))<|S.rg<|Q.mv U<|S.dd<|D.co (.cons 0 U (.cons 0 U .nil)) U U (λG hD=>kU p r (.ptr p 0) (.inr U) _ (eZ s (j+1)) (by omega) _ hb.1 hb.2 hst.symm G hD)<|?_
    (rintro _ _ ⟨rfl,r4,rfl⟩;simp only[xV,List.cons_append,List.nil_append])
    refine US.nil<|UQ.aB<|UQ.aB<|UQ.then<|S.rg<|S.qu (Z.add (r:=((j+1:Nat):Int)) U U (IntWalk.i64_in _ (by omega)))<|Q.mv U<|US.nil<|?_
    refine S.back (j+1,r4) ⟨rfl,rfl,rfl,rfl,trivial⟩ (.refl _) (by omega) (by omega)
  ·have hst:eZ s (j+1)=(eZ s j++aN 92)++aN (kF (eO s (j:Int))):=by show yF _ _=_;unfold yF;rw[if_pos hq]
   have hz1:(eZ s j++aN 92).size<=100000000000000:=by rw[bf,aU];omega
   refine Q.rg<|Q.bi U U U<|Q.nt<|S.sq<|S.cT U (decide_eq_true (by omega))<|UW.skip<|UQ.then<|S.sq<|UW.block<|Q.rg<|Q.mv U<|Q.as U<|Q.nt<|Q.rg<|Q.mv U<|Q.mv U<|S.dd<|D.ib Tryz.underlying9 U U (by omega) (by omega) λh15=>Q.as U<|Q.nt<|Q.rg<|Q.mv U<|S.qu (Z.call U U (λ_=>Ci _ _))<|Q.as U<|Q.nt<|UW.block<|Q.rg<|Q.mv U<|Q.bi U U U<|Q.as U<|Q.nt<|S.cT U (rP (by omega))<|Q.rg<|S.dd<|D.co (.cons 0 U (.cons 0 U .nil)) U U (λG hD=>qo p r (.ptr p 0) (.inr U) (eZ s j) (by omega) 92 (by decide) (by decide) G hD)<|?_
   (rintro _ _ ⟨rfl,r2,rfl⟩;simp only[xV,List.cons_append,List.nil_append])
   refine Q.nt<|S.rg<|Q.mv U<|S.dd<|D.co (.cons 0 U (.cons 0 U .nil)) U U (λG hD=>kU p r2 (.ptr p 0) (.inr U) _ (eZ s (j+1)) hz1 _ hsb.1 hsb.2 hst.symm G hD)<|?_
   (rintro _ _ ⟨rfl,r4,rfl⟩;simp only[xV,List.cons_append,List.nil_append])
   refine US.nil<|UQ.aB<|UQ.aB<|UQ.then<|S.rg<|S.qu (Z.add (r:=((j+1:Nat):Int)) U U (IntWalk.i64_in _ (by omega)))<|Q.mv U<|US.nil<|?_
   refine S.back (j+1,r4) ⟨rfl,rfl,rfl,rfl,trivial⟩ (.refl _) (by omega) (by omega)
 ·have hjs:j=s.size:=by omega
  have hz:eZ s j++aN 34=kG s:=by rw[hjs];rfl
  have hp:0<(kG s).size:=by rw[<-hz,bf,aU];omega
  have hq:=wW s
  refine Q.rg<|Q.bi U U U<|Q.nt<|S.sq<|S.cF U (decide_eq_false (by omega))<|UW.exit<|UQ.pass<|UQ.pass<|UQ.here<|UQ.then<|Q.rg<|S.dd<|D.co (.cons 0 U (.cons 0 U .nil)) U U (λG hD=>kU p r (.ptr p 0) (.inr U) _ (kG s) (by omega) 34 (by decide) (by decide) hz G hD)<|?_
  (rintro _ _ ⟨rfl,r4,rfl⟩;simp only[xV,List.cons_append,List.nil_append])
  refine Q.nt<|Q.rg<|S.dd<|D.co (.cons 0 U (.cons 0 U .nil)) U U (λG hD=>wQ p r4 (.ptr p 0) (kG s) hp (by omega) G hD)<|?_
  (rintro _ _ ⟨rfl,rfl⟩;simp only[List.nil_append])
  refine Q.as U<|Q.nt<|UW.ret<|S.bH (λ_=>ak U U)<|?_
  rfl
theorem rV(s:ByteArray)(k:Nat)(h:k<s.size):s.extract k (k+1)=aN (eO s (k:Int)):=by
 have hk:k<s.data.toList.length:=by simpa using h
 apply ByteArray.ext
 apply Array.ext'
 rw[ByteArray.data_extract,Array.toList_extract,iL s k h]
 show List.extract _ _ _=[UInt8.ofNat _]
 rw[Int.toNat_natCast,UInt8.ofNat_toNat]
 unfold List.extract
 rw[show k+1-k=1 from by omega,List.drop_eq_getElem_cons hk];rfl
theorem two_b(a b:Int)(ha:0<=a/\a<256)(hb:0<=b/\b<256):AV.sl [[.v (.int .u8 a)],[.v (.int .u8 b)]]=.sl (bN (aN a++aN b)):=by rw[wO,o8 ha.1 ha.2,o8 hb.1 hb.2];rfl
theorem IV(a:Int)(ha:0<=a/\a<256):AV.sl [[.v (.int .u8 a)]]=.sl (bN (aN a)):=by rw[o8 ha.1 ha.2]
theorem wX(s:ByteArray)(hs:s.size<=1000000000000)(H:Hp):au Tryz.prog 87 [.v (.string s)] H (bB H (.v (.string (kG s)))):=by
 refine aF (n:=47) (H0:=H) (I:=[]) Tryz.func87 (by kernel_rfl) U (by rw[Tryz.ntmps87];rfl) .nil<|?_
 refine Q.rg<|Q.as U<|Q.nt<|Q.rg<|Q.as U<|Q.nt<|S.sq<|Q.rg<|Q.as U<|Q.nt<|UW.block<|S.loop (λj:Nat=>[(4,.v (.int .i64 (j:Int))),(3,.v (.string (eZ s j))),(0,.v (.string s))]) (λ_=>[]) (λj=>j<=s.size) (λj=>s.size-j) 0 (Nat.zero_le _) ⟨rfl,rfl,rfl,trivial⟩ (.refl _)<|?_
 rintro j hj
 have hN:=rU s j
 have hb:=ql s (j:Int)
 have hsb:=Ng (eO s (j:Int))
 by_cases hlt:j<s.size
 ·by_cases hq:kF (eO s (j:Int))=0
  ·by_cases hq2:eO s (j:Int)<32
   ·have hx1:=ql wV (eO s (j:Int)/16)
    have hx2:=ql wV (eO s (j:Int)% 16)
    have hst:(eZ s j++uS)++(aN (eO wV (eO s (j:Int)/16))++aN (eO wV (eO s (j:Int)% 16)))=eZ s (j+1):=by show _=yF _ _;unfold yF;rw[if_neg (λh=>h hq),if_pos hq2,<-ByteArray.append_assoc]
    refine S.sq<|Q.rg<|Q.mv U<|Q.mv U<|S.qu (Z.wm Tryz.underlying9 U)<|Q.bi U U U<|Q.nt<|S.cT U (decide_eq_true (by omega))<|UW.skip<|UQ.then<|S.sq<|UW.block<|Q.rg<|Q.mv U<|Q.mv U<|S.dd<|D.ib Tryz.underlying9 U U (by omega) (by omega) λh14=>Q.as U<|Q.nt<|Q.rg<|Q.mv U<|S.qu (Z.eq (u':=.v (.int .u8 0)) (Z.call U U (λ_=>uK _ _)) (by rw[hq]))<|?_
    refine Q.bi U U U<|Q.nt<|S.cF U (mJ (by omega))<|Q.rg<|Q.mv U<|Q.bi U U U<|Q.nt<|S.cT U (decide_eq_true (by omega))<|?_
    refine' UW.bG (by kernel_rfl) [0,1,0,4,12,0,32,96,252,508,1023,2047] [some 27,some 28,some 29,some 30,some 31,some 32,some 33,some 34,some 35,some 36,some 37,some 3] [some (27,_),some (28,_),some (29,_),some (30,_),some (31,_),some (32,_),some (33,_),some (34,_),some (35,_),some (36,_),some (37,_),some (3,_)] [] [] U (by decide) (by decide) (M.free (by decide) U U ?zw (M.free (by decide) U U ?uI (M.free (by decide) U U ?uJ (M.free (by decide) U U ?zx (M.free (by decide) U U ?zy (M.free (by decide) U U ?zz (M.free (by decide) U U ?zA (M.free (by decide) U U ?zB (M.free (by decide) U U ?zC (M.free (by decide) U U ?PQ (M.free (by decide) U U ?J9 (M.free (by decide) U U ?Ka M.nil)))))))))))) ?J8
    case zw=>(intro _;exact Z.mv rfl)
    case uI=>(intro _;exact Z.cat (q:=uS) rfl rfl (by show _+4<=_;omega))
    case uJ=>(intro _;exact Z.mv rfl)
    case zx=>(intro _;exact Z.eq (u':=.v (.int .u8 (eO s (j:Int)/16))) (Z.bi rfl rfl rfl) (by rw[IntWalk.u8_in _ (by rw[Int.tdiv_eq_ediv_of_nonneg hb.1];omega),Int.tdiv_eq_ediv_of_nonneg hb.1]))
    case zy=>(intro _;exact Z.is (p:=wV) Tryz.underlying9 rfl rfl (by omega) (by show _<(16:Int);omega))
    case zz=>(intro _;exact Z.mv rfl)
    case zA=>(intro _;exact Z.eq (u':=.v (.int .u8 (eO s (j:Int)% 16))) (Z.bi rfl rfl rfl) (by rw[Int.tmod_eq_emod_of_nonneg hb.1]))
    case zB=>(intro _;exact Z.is (p:=wV) Tryz.underlying9 rfl rfl (by omega) (by show _<(16:Int);omega))
    case zC=>(intro _;exact Z.bl je rfl rfl (bz rfl))
    case PQ=>(intro _;exact Z.b2s (s:=aN (eO wV (eO s (j:Int)/16))++aN (eO wV (eO s (j:Int)% 16))) Tryz.underlying22 Tryz.underlying5 Tryz.underlying9 (congrArg some (two_b _ _ hx1 hx2)))
    case J9=>(intro _;exact Z.eq (u':=.v (.string (eZ s (j+1)))) (Z.cat rfl rfl (by rw[bf,bf,aU,aU];show _+4+2<=_;omega)) (by rw[hst]))
    case Ka=>(intro _;exact Z.as rfl)
    refine CH.nil<|?_
    simp only[app,bS]
    refine UQ.aB<|UQ.then<|S.rg<|Q.mv U<|S.qu (Z.add (r:=((j+1:Nat):Int)) U U (IntWalk.i64_in _ (by omega)))<|Q.as U<|US.nil<|?_
    refine S.back _ ⟨rfl,rfl,rfl,trivial⟩ (.refl _) (by omega) (by omega)
   ·have hst:eZ s j++s.extract j (j+1)=eZ s (j+1):=by rw[rV s j hlt];show _=yF _ _;unfold yF;rw[if_neg (λh=>h hq),if_neg hq2]
    refine S.sq<|Q.rg<|Q.mv U<|Q.mv U<|S.qu (Z.wm Tryz.underlying9 U)<|Q.bi U U U<|Q.nt<|S.cT U (decide_eq_true (by omega))<|UW.skip<|UQ.then<|S.sq<|UW.block<|Q.rg<|Q.mv U<|Q.mv U<|S.dd<|D.ib Tryz.underlying9 U U (by omega) (by omega) λh14=>Q.as U<|Q.nt<|Q.rg<|Q.mv U<|S.qu (Z.eq (u':=.v (.int .u8 0)) (Z.call U U (λ_=>uK _ _)) (by rw[hq]))<|?_
    refine Q.bi U U U<|Q.nt<|S.cF U (mJ (by omega))<|Q.rg<|Q.mv U<|Q.bi U U U<|Q.nt<|S.cF U (decide_eq_false (by omega))<|S.rg<|Q.mv U<|Q.mv U<|Q.mv U<|Q.mv U<|S.qu (Z.add (r:=((j+1:Nat):Int)) U U (IntWalk.i64_in _ (by omega)))<|S.qu (Z.slt Tryz.underlying9 U (.both U U) (by omega) (by omega))<|S.qu (Z.eq (u':=.v (.string (eZ s (j+1)))) (Z.cat U U (by rw[rV s j hlt,aU];omega)) (by rw[hst]))<|?_
    refine Q.as U<|US.nil<|UQ.aB<|UQ.then<|S.rg<|Q.mv U<|S.qu (Z.add (r:=((j+1:Nat):Int)) U U (IntWalk.i64_in _ (by omega)))<|Q.as U<|US.nil<|?_
    refine S.back _ ⟨rfl,rfl,rfl,trivial⟩ (.refl _) (by omega) (by omega)
  ·have hst:(eZ s j++aN 92)++aN (kF (eO s (j:Int)))=eZ s (j+1):=by show _=yF _ _;unfold yF;rw[if_pos hq]
   refine S.sq<|Q.rg<|Q.mv U<|Q.mv U<|S.qu (Z.wm Tryz.underlying9 U)<|Q.bi U U U<|Q.nt<|S.cT U (decide_eq_true (by omega))<|UW.skip<|UQ.then<|S.sq<|UW.block<|Q.rg<|Q.mv U<|Q.mv U<|S.dd<|D.ib Tryz.underlying9 U U (by omega) (by omega) λh14=>Q.as U<|Q.nt<|Q.rg<|Q.mv U<|S.qu (Z.call U U (λ_=>uK _ _))<|Q.bi U U U<|Q.nt<|S.cT U (rP (by omega))<|S.rg<|Q.mv U<|S.qu (Z.cat (q:=aN 92) U U (by rw[aU];omega))<|?_
   refine Q.mv U<|S.qu (Z.call U U (λ_=>uK _ _))<|S.qu (Z.bl je U U (bz U))<|S.qu (Z.b2s (s:=aN (kF (eO s (j:Int)))) Tryz.underlying22 Tryz.underlying5 Tryz.underlying9 (congrArg some (IV _ hsb)))<|S.qu (Z.eq (u':=.v (.string (eZ s (j+1)))) (Z.cat U U (by rw[bf,aU,aU];omega)) (by rw[hst]))<|?_
   refine Q.as U<|US.nil<|UQ.aB<|UQ.then<|S.rg<|Q.mv U<|S.qu (Z.add (r:=((j+1:Nat):Int)) U U (IntWalk.i64_in _ (by omega)))<|Q.as U<|US.nil<|?_
   refine S.back _ ⟨rfl,rfl,rfl,trivial⟩ (.refl _) (by omega) (by omega)
 ·have hjs:j=s.size:=by omega
  have hz:eZ s j++aN 34=kG s:=by rw[hjs];rfl
  refine S.sq<|Q.rg<|Q.mv U<|Q.mv U<|S.qu (Z.wm Tryz.underlying9 U)<|Q.bi U U U<|Q.nt<|S.cF U (decide_eq_false (by omega))<|UW.exit<|UQ.pass<|UQ.pass<|UQ.here<|UQ.then<|Q.rg<|Q.mv U<|S.qu (Z.eq (u':=.v (.string (kG s))) (Z.cat (q:=aN 34) U U (by rw[aU];omega)) (by rw[hz]))<|?_
  refine Q.as U<|Q.nt<|UW.ret<|S.bH (λ_=>ak U U)<|?_
  rfl
end Go.Proofs.YtonpfomjoiaacaaGreatDoor
end
