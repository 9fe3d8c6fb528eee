/- A part of the proof. -/
import Derived.Test.YtbooeongacgnbaaGreatDoorMw12
import Derived.Test.YtbooeongacgnbaaGreatDoorMw10
import Derived.Test.YtbooeongacgnbaaGreatDoorMw09
set_option maxRecDepth 100000
set_option maxHeartbeats 4000000
set_option linter.unusedSectionVars false
set_option linter.unusedVariables false
set_option linter.unusedSimpArgs false
section
namespace Go.Proofs.YtbooeongacgnbaaGreatDoor
open Go Go.gW Go.RowKit
def lN(s:ByteArray):Nat->Nat->Int
 |0,_=> -1
 |f+1,pos=>if pos<s.size then(if fA (s.extract pos s.size)=0 then(pos:Int) else lN s f (pos+(fA (s.extract pos s.size)).toNat)) else-1
def NY(s:ByteArray):Int:=lN s (s.size+1) 0
theorem zq(s:ByteArray)(n:Nat)(l r0:Int):0<=iY s n l r0/\iY s n l r0<=n+1:=by
 unfold iY;repeat' split
 all_goals omega
theorem vT(s:ByteArray):0<=fA s/\fA s<=s.size:=by
 unfold fA
 by_cases h0:s.size=0
 ·rw[if_pos h0];omega
 ·rw[if_neg h0]
  have b0:=zq s 0 0 (bt s 0)
  have b1:=zq s 1 128 ((bt s 0:Int).tmod 32)
  have b2:=zq s 2 2048 ((bt s 0:Int).tmod 16)
  have b3:=zq s 3 65536 ((bt s 0:Int).tmod 8)
  have hm:=Ak (bt s 0)
  repeat' split
  all_goals omega
theorem GJ(s:ByteArray)(hs:s.size<=4000000)(H:Hp):F Tryz.prog 24 [.v (.string s)] H (bn H (.v (.int .i64 (NY s)))):=by
 refine aA (n:=19) (H0:=H) (M:=[]) Tryz.func24 (by kernel_rfl) U (by rw[Tryz.ntmps24];rfl) .nil<|?_
 refine Q.rg<|Q.as U<|Q.nt<|Q.rg<|Q.as U<|Q.nt<|UW.seq<|UW.block<|UW.loop (λp:Nat×Nat=>[(3,.v (.int .i64 (p.1:Int))),(0,.v (.string s))]) (λp=>[]) (λp=>p.1<=s.size/\s.size-p.1<p.2/\lN s p.2 p.1=NY s) (λp=>p.2) (0,s.size+1) ⟨Nat.zero_le _,by simp,rfl⟩ ⟨rfl,rfl,trivial⟩ (.refl _)<|?_
 rintro⟨pos,f⟩ ⟨hp,hf,hc⟩
 simp only at hp hf hc
 obtain⟨f,rfl⟩:∃f',f=f'+1:=⟨f-1,by omega⟩
 refine UW.seq<|Q.rg<|Q.mv U<|Q.mv U<|US.nG U (by decide) U U Tryz.underlying9 U<|Q.bi U U U<|Q.nt<|?_
 refine UW.cond U (λh=>?_) (λh=>?_)
 ·have h:=of_decide_eq_true h
  have hlt:pos<s.size:=by simp only at h;omega
  have hbd:=vT (s.extract pos s.size)
  rw[ByteArray.size_extract] at hbd
  refine UW.skip<|UQ.then<|UW.block<|Q.rg<|Q.mv U<|Q.mv U<|US.lZ U (by decide) U U Tryz.underlying9 U (.lo U) (by simp only;omega) (by omega)<|?_
  refine US.gq U (by decide) U U U U (λ_=>Al _ (by rw[ByteArray.size_extract];omega) _)<|?_
  refine Q.as U<|Q.nt<|UW.seq<|Q.rg<|?_
  by_cases h0:fA (s.extract pos s.size)=0
  ·refine Q.mv U<|US.aG U (by decide) U U U U (r:=.bool true) (by(simp[fu,fB,h0];done))<|?_
   refine Q.nt<|?_
   refine UW.cond U (λ_=>?_) (λh=>absurd h (by simp))
   refine Q.rg<|Q.mv U<|Q.as U<|Q.nt<|UW.ret<|UQ.aj<|UQ.az<|UQ.aj<|UQ.az<|UQ.aj<|?_
   refine bD [] (λ_=>au U U) (.refl _) λhd=>⟨?_,rfl⟩
   rw[<-hc,lN,if_pos hlt,if_pos h0]
  ·refine Q.mv U<|US.aG U (by decide) U U U U (r:=.bool false) (by(simp[fu,fB,h0];done))<|?_
   refine Q.nt<|UW.cond U (λh=>absurd h (by simp)) λ_=>?_
   refine UW.skip<|UQ.then<|UW.region<|Q.mv U<|Q.mv U<|US.add U (by decide) U U U U (r:=((pos+(fA (s.extract pos s.size)).toNat:Nat):Int)) (Eq.trans (IntWalk.i64_in _ (by simp only;omega)) (by simp only;omega))<|?_
   refine Q.as U<|US.keep [(3,.v (.int .i64 ((pos+(fA (s.extract pos s.size)).toNat:Nat):Int))),(0,.v (.string s))] [] ⟨rfl,rfl,trivial⟩ (.refl _)<|US.nil<|UQ.aI<|?_
   exactλhd=>⟨(pos+(fA (s.extract pos s.size)).toNat,f),⟨by simp only;omega,by simp only;omega,by
    simp only
    rw[<-hc]
    conv=>rhs;rw[lN,if_pos hlt,if_neg h0]⟩,by simp,hd,rfl,rfl⟩
 ·have h:=of_decide_eq_false h
  refine UW.exit<|UQ.pass<|UQ.pass<|UQ.here<|UQ.then<|Q.rg<|Q.as U<|Q.nt<|UW.ret<|?_
  refine bD [] (λ_=>au U U) (.refl _) λhd=>⟨?_,rfl⟩
  rw[<-hc,lN,if_neg (by simp only at h;omega)]
theorem gX(s:ByteArray)(pos k:Nat)(h:pos+k<s.size):bt (s.extract pos s.size) k=bt s (pos+k):=by
 rw[eX _ k (by rw[ByteArray.size_extract];omega),eX s (pos+k) h]
 congr 1
 simp[ByteArray.getElem_extract]
def gK(m B0 B1 B2 B3:Nat):Nat:=
 if B0<128 then 1
 else if 194<=B0/\B0<=223/\1<m/\128<=B1/\B1<=191 then 2
 else if 224<=B0/\B0<=239/\2<m/\128<=B1/\B1<=191/\128<=B2/\B2<=191/\2048<=64*(64*(B0 % 16)+B1 % 64)+B2 % 64/\¬(55296<=64*(64*(B0 % 16)+B1 % 64)+B2 % 64/\64*(64*(B0 % 16)+B1 % 64)+B2 % 64<=57343) then 3
 else if 240<=B0/\B0<=244/\3<m/\128<=B1/\B1<=191/\128<=B2/\B2<=191/\128<=B3/\B3<=191/\65536<=64*(64*(64*(B0 % 8)+B1 % 64)+B2 % 64)+B3 % 64/\64*(64*(64*(B0 % 8)+B1 % 64)+B2 % 64)+B3 % 64<=1114111 then 4
 else 0
theorem UE(t:ByteArray)(l r0:Int):iY t 1 l r0=if dA t 1=true/\bY l (64*r0+(bt t 1:Int).tmod 64)=true then 2 else 0:=by
 unfold iY
 have:(List.range 1).all (λi=>dA t (i+1))=dA t 1:=by simp[List.range_succ]
 rw[this]
 cases h1:dA t 1<;>cases h2:bY l (iX t r0 1)<;>simp_all[iX]
theorem UF(t:ByteArray)(l r0:Int):iY t 2 l r0=if (dA t 1=true/\dA t 2=true)/\bY l (64*(64*r0+(bt t 1:Int).tmod 64)+(bt t 2:Int).tmod 64)=true then 3 else 0:=by
 unfold iY
 have:(List.range 2).all (λi=>dA t (i+1))=(dA t 1&&dA t 2):=by simp[List.range_succ]
 rw[this]
 cases h1:dA t 1<;>cases h3:dA t 2<;>cases h2:bY l (iX t r0 2)<;>simp_all[iX]
theorem UG(t:ByteArray)(l r0:Int):iY t 3 l r0=if (dA t 1=true/\dA t 2=true/\dA t 3=true)/\bY l (64*(64*(64*r0+(bt t 1:Int).tmod 64)+(bt t 2:Int).tmod 64)+(bt t 3:Int).tmod 64)=true then 4 else 0:=by
 unfold iY
 have:(List.range 3).all (λi=>dA t (i+1))=(dA t 1&&(dA t 2&&dA t 3)):=by simp[List.range_succ,Bool.and_assoc]
 rw[this]
 cases h1:dA t 1<;>cases h3:dA t 2<;>cases h4:dA t 3<;>cases h2:bY l (iX t r0 3)<;>simp_all[iX]
theorem Mm(t:ByteArray)(h:0<t.size):fA t=(gK t.size (bt t 0) (bt t 1) (bt t 2) (bt t 3):Int):=by
 have b0:=kZ t 0
 have b1:=kZ t 1
 have b2:=kZ t 2
 have b3:=kZ t 3
 have e32:(bt t 0:Int).tmod 32=((bt t 0 % 32:Nat):Int):=rfl
 have e16:(bt t 0:Int).tmod 16=((bt t 0 % 16:Nat):Int):=rfl
 have e8:(bt t 0:Int).tmod 8=((bt t 0 % 8:Nat):Int):=rfl
 have e1:(bt t 1:Int).tmod 64=((bt t 1 % 64:Nat):Int):=rfl
 have e2:(bt t 2:Int).tmod 64=((bt t 2 % 64:Nat):Int):=rfl
 have e3:(bt t 3:Int).tmod 64=((bt t 3 % 64:Nat):Int):=rfl
 have e0:iY t 0 0 (bt t 0)=if bY 0 (bt t 0)=true then 1 else 0:=by unfold iY;simp[iX]
 have key:∀m:Int,kv (bt t 0)=m->(m<0->gK t.size (bt t 0) (bt t 1) (bt t 2) (bt t 3)=0)->(0<=m->(t.size:Int)<=m->gK t.size (bt t 0) (bt t 1) (bt t 2) (bt t 3)=0)->
  (m=0->iY t 0 0 (bt t 0)=(gK t.size (bt t 0) (bt t 1) (bt t 2) (bt t 3):Int))->(m=1->m<t.size->iY t 1 128 ((bt t 0:Int).tmod 32)=(gK t.size (bt t 0) (bt t 1) (bt t 2) (bt t 3):Int))->(m=2->m<t.size->iY t 2 2048 ((bt t 0:Int).tmod 16)=(gK t.size (bt t 0) (bt t 1) (bt t 2) (bt t 3):Int))->
  (m=3->m<t.size->iY t 3 65536 ((bt t 0:Int).tmod 8)=(gK t.size (bt t 0) (bt t 1) (bt t 2) (bt t 3):Int))->fA t=(gK t.size (bt t 0) (bt t 1) (bt t 2) (bt t 3):Int):=by
  intro m hm k1 k2 q0 q1 q2 q3
  have ZJ:=Ak (bt t 0)
  rw[hm] at ZJ
  unfold fA
  rw[if_neg (by omega),hm]
  by_cases h1:m<0
  ·rw[if_pos h1,k1 h1];rfl
  ·rw[if_neg h1]
   by_cases h2:(t.size:Int)<=m
   ·rw[if_pos h2,k2 (by omega) h2];rfl
   ·rw[if_neg h2]
    by_cases h3:m=0
    ·rw[if_pos h3];exact q0 h3
    ·rw[if_neg h3]
     by_cases h4:m=1
     ·rw[if_pos h4];exact q1 h4 (by omega)
     ·rw[if_neg h4]
      by_cases h5:m=2
      ·rw[if_pos h5];exact q2 h5 (by omega)
      ·rw[if_neg h5];exact q3 (by omega) (by omega)
 have hmore:∀m:Int,(if (bt t 0:Int)<128 then(0:Int) else if 194<=(bt t 0:Int)/\(bt t 0:Int)<=223 then 1 else if 224<=(bt t 0:Int)/\(bt t 0:Int)<=239 then 2 else if 240<=(bt t 0:Int)/\(bt t 0:Int)<=244 then 3 else-1)=m->kv (bt t 0)=m:=λm h=>h
 refine key _ (hmore _ U) ?_ ?_ ?_ ?_ ?_ ?_
 all_goals (try rw[UE]);(try rw[UF]);(try rw[UG]);(try rw[e0])
 all_goals (try rw[e32]);(try rw[e16]);(try rw[e8])
 all_goals (try rw[e1]);(try rw[e2]);(try rw[e3])
 all_goals unfold gK
 all_goals (try unfold bY)
 all_goals (try unfold dA)
 all_goals generalize bt t 0=B0 at*
 all_goals generalize bt t 1=B1 at*
 all_goals generalize bt t 2=B2 at*
 all_goals generalize bt t 3=B3 at*
 all_goals generalize t.size=m at*
 all_goals (try simp only[Bool.and_eq_true,Bool.not_eq_true',Bool.and_eq_false_iff,decide_eq_true_eq,decide_eq_false_iff_not])
 all_goals clear key hmore e32 e16 e8 e1 e2 e3 e0
 ·intro h1
  repeat' split at h1
  all_goals first|omega|(repeat' split)<;>omega
 ·intro h1 h2
  repeat' split at h1
  all_goals first|omega|skip
  all_goals (repeat' split)<;>omega
 ·intro h1
  repeat' split at h1
  all_goals first|omega|(repeat' split)<;>omega
 ·intro h1 h2
  rw[h1] at h2
  repeat' split at h1
  all_goals first|omega|skip
  all_goals (repeat' split)<;>omega
 ·intro h1 h2
  rw[h1] at h2
  repeat' split at h1
  all_goals first|omega|skip
  all_goals (repeat' split)<;>omega
 ·intro h1 h2
  rw[h1] at h2
  repeat' split at h1
  all_goals first|omega|skip
  all_goals (repeat' split)<;>omega
theorem Cz(s:ByteArray)(pos:Nat):Utf8.decode s pos=
 (if bt s pos<128 then(bt s pos,1)
  else if (bt s pos/32==6&&(decide (pos+1<s.size)&&bt s (pos+1)/64==2))=true then
   (if bt s pos % 32*64+bt s (pos+1)% 64>=128 then(bt s pos % 32*64+bt s (pos+1)% 64,2) else(65533,1))
  else if (bt s pos/16==14&&(decide (pos+1<s.size)&&bt s (pos+1)/64==2)&&(decide (pos+2<s.size)&&bt s (pos+2)/64==2))=true then
   (if (decide (bt s pos % 16*4096+bt s (pos+1)% 64*64+bt s (pos+2)% 64>=2048)&&Utf8.valid (bt s pos % 16*4096+bt s (pos+1)% 64*64+bt s (pos+2)% 64:Nat))=true then(bt s pos % 16*4096+bt s (pos+1)% 64*64+bt s (pos+2)% 64,3) else(65533,1))
  else if (bt s pos/8==30&&(decide (pos+1<s.size)&&bt s (pos+1)/64==2)&&(decide (pos+2<s.size)&&bt s (pos+2)/64==2)&&(decide (pos+3<s.size)&&bt s (pos+3)/64==2))=true then
   (if (decide (bt s pos % 8*262144+bt s (pos+1)% 64*4096+bt s (pos+2)% 64*64+bt s (pos+3)% 64>=65536)&&Utf8.valid (bt s pos % 8*262144+bt s (pos+1)% 64*4096+bt s (pos+2)% 64*64+bt s (pos+3)% 64:Nat))=true then(bt s pos % 8*262144+bt s (pos+1)% 64*4096+bt s (pos+2)% 64*64+bt s (pos+3)% 64,4) else(65533,1))
  else(65533,1)):=rfl
theorem Lb(s:ByteArray)(pos:Nat)(h:pos<s.size)(hl:gK (s.size-pos) (bt s pos) (bt s (pos+1)) (bt s (pos+2)) (bt s (pos+3))=0):
 Utf8.decode s pos=(65533,1)/\¬(3<=s.size-pos/\bt s pos=239/\bt s (pos+1)=191/\bt s (pos+2)=189):=by
 have b0:=kZ s pos
 have b1:=kZ s (pos+1)
 have b2:=kZ s (pos+2)
 have b3:=kZ s (pos+3)
 rw[Cz]
 unfold gK at hl
 unfold Utf8.valid
 generalize bt s pos=B0 at*
 generalize bt s (pos+1)=B1 at*
 generalize bt s (pos+2)=B2 at*
 generalize bt s (pos+3)=B3 at*
 simp only[Bool.and_eq_true,Bool.or_eq_true,beq_iff_eq,decide_eq_true_eq]
 repeat' split at hl
 all_goals first|omega|skip
 constructor
 ·repeat' split
  all_goals first|rfl|(exfalso;omega)
 ·omega
theorem GK(s:ByteArray)(pos:Nat)(h:pos<s.size)(hl:gK (s.size-pos) (bt s pos) (bt s (pos+1)) (bt s (pos+2)) (bt s (pos+3))≠0):
 (Utf8.decode s pos).2=gK (s.size-pos) (bt s pos) (bt s (pos+1)) (bt s (pos+2)) (bt s (pos+3))/\((Utf8.decode s pos).1=65533->3<=s.size-pos/\bt s pos=239/\bt s (pos+1)=191/\bt s (pos+2)=189):=by
 have b0:=kZ s pos
 have b1:=kZ s (pos+1)
 have b2:=kZ s (pos+2)
 have b3:=kZ s (pos+3)
 rw[Cz]
 unfold gK at hl⊢
 unfold Utf8.valid
 generalize bt s pos=B0 at*
 generalize bt s (pos+1)=B1 at*
 generalize bt s (pos+2)=B2 at*
 generalize bt s (pos+3)=B3 at*
 simp only[Bool.and_eq_true,Bool.or_eq_true,beq_iff_eq,decide_eq_true_eq]
 repeat' split at hl
 all_goals first|omega|skip
 all_goals (repeat' split)
 all_goals omega
 all_goals (refine⟨by omega,λhc=>?_⟩)
 all_goals (simp only at hc)
 all_goals omega
theorem Qj(t:ByteArray):pre t vR=true↔3<=t.size/\bt t 0=239/\bt t 1=191/\bt t 2=189:=by
 unfold pre
 rw[Bool.and_eq_true,decide_eq_true_eq,beq_iff_eq,Lib.extract_toList,Lib.toList_data]
 obtain⟨⟨l⟩⟩:=t
 match l with
 |[]=>simp[vR,ByteArray.size]
 |[a]=>simp[vR,ByteArray.size]
 |[a,b]=>simp[vR,ByteArray.size]
 |a::b::c::r=>
  have e0:bt ⟨⟨a::b::c::r⟩⟩ 0=a.toNat:=rfl
  have e1:bt ⟨⟨a::b::c::r⟩⟩ 1=b.toNat:=rfl
  have e2:bt ⟨⟨a::b::c::r⟩⟩ 2=c.toNat:=rfl
  rw[e0,e1,e2]
  have h3:(3:Nat)<=(ByteArray.mk (a::b::c::r).toArray).size:=by simp[ByteArray.size]
  have hs:vR.size=3:=rfl
  have he:vR.data.toList=[239,191,189]:=rfl
  rw[hs,he]
  have hu:∀(x:UInt8) (n:Nat) (hn:n<256),x=UInt8.ofNat n↔x.toNat=n:=by
   intro x n hn
   rw[<-UInt8.toNat_inj,UInt8.toNat_ofNat']
   omega
  constructor
  ·rintro⟨_,h⟩
   simp at h
   obtain⟨rfl,rfl,rfl⟩:=h
   exact⟨h3,rfl,rfl,rfl⟩
  ·rintro⟨_,q0,q1,q2⟩
   refine⟨h3,?_⟩
   have r0:=(hu a 239 (by decide)).2 q0
   have r1:=(hu b 191 (by decide)).2 q1
   have r2:=(hu c 189 (by decide)).2 q2
   subst r0 r1 r2
   rfl
theorem Ep(s:ByteArray)(pos:Nat):(s.extract pos s.size).size=s.size-pos:=by rw[ByteArray.size_extract];omega
theorem Am{m B0 B1 B2 B3 C1 C2 C3:Nat}(h1:1<m->B1=C1)(h2:2<m->B2=C2)(h3:3<m->B3=C3):gK m B0 B1 B2 B3=gK m B0 C1 C2 C3:=by
 by_cases q3:3<m
 ·rw[h1 (by omega),h2 (by omega),h3 q3]
 ·by_cases q2:2<m
  ·rw[h1 (by omega),h2 q2]
   unfold gK
   repeat' split
   all_goals first|rfl|omega
  ·by_cases q1:1<m
   ·rw[h1 q1]
    unfold gK
    repeat' split
    all_goals first|rfl|omega
   ·unfold gK
    repeat' split
    all_goals first|rfl|omega
theorem qa(s:ByteArray)(pos:Nat)(h:pos<s.size):fA (s.extract pos s.size)=(gK (s.size-pos) (bt s pos) (bt s (pos+1)) (bt s (pos+2)) (bt s (pos+3)):Int):=by
 rw[Mm _ (by rw[Ep];omega),Ep,gX s pos 0 (by omega)]
 refine congrArg (λn:Nat=>(n:Int))<|?_
 exact Am (λh=>gX s pos 1 (by omega)) (λh=>gX s pos 2 (by omega)) (λh=>gX s pos 3 (by omega))
theorem Lc(s:ByteArray)(pos:Nat)(h:pos<s.size):(Ad s pos=true/\fA (s.extract pos s.size)=0)\/(Ad s pos=false/\fA (s.extract pos s.size)≠0/\(fA (s.extract pos s.size)).toNat=(Utf8.decode s pos).2):=by
 have hpre:pre (s.extract pos s.size) vR=true↔3<=s.size-pos/\bt s pos=239/\bt s (pos+1)=191/\bt s (pos+2)=189:=by
  rw[Qj,Ep]
  constructor
  ·rintro⟨q,q0,q1,q2⟩
   rw[gX s pos 0 (by omega)] at q0
   rw[gX s pos 1 (by omega)] at q1
   rw[gX s pos 2 (by omega)] at q2
   exact⟨q,q0,q1,q2⟩
  ·rintro⟨q,q0,q1,q2⟩
   rw[gX s pos 0 (by omega),gX s pos 1 (by omega),gX s pos 2 (by omega)]
   exact⟨q,q0,q1,q2⟩
 rw[qa s pos h]
 by_cases hl:gK (s.size-pos) (bt s pos) (bt s (pos+1)) (bt s (pos+2)) (bt s (pos+3))=0
 ·obtain⟨q1,q2⟩:=Lb s pos h hl
  refine .inl ⟨?_,by rw[hl];rfl⟩
  have:pre (s.extract pos s.size) vR=false:=by
   cases hp:pre (s.extract pos s.size) vR with
   |false=>rfl
   |true=>exact absurd (hpre.1 hp) q2
  unfold Ad
  rw[q1,this];rfl
 ·obtain⟨q1,q2⟩:=GK s pos h hl
  refine .inr ⟨?_,by omega,by rw[q1];omega⟩
  unfold Ad
  by_cases hc:(Utf8.decode s pos).1=65533
  ·rw[hpre.2 (q2 hc)];simp
  ·have:((Utf8.decode s pos).1==65533)=false:=by simpa using hc
   rw[this];rfl
theorem Jp(s:ByteArray):nu s=NY s:=by
 have:∀f pos,Gz s f pos=lN s f pos:=by
  intro f
  induction f with
  |zero=>intro pos;rfl
  |succ f ih=>
   intro pos
   rw[Gz,lN]
   by_cases h:pos<s.size
   ·rw[if_pos h,if_pos h]
    rcases Lc s pos h with ⟨q1,q2⟩|⟨q1,q2,q3⟩
    ·rw[if_pos q1,if_pos q2]
    ·rw[if_neg (by rw[q1];simp),if_neg q2,q3,ih]
   ·rw[if_neg h,if_neg h]
 exact this _ _
theorem Ao:∀(k:Nat) (l r:List UInt8),k<=l.length->k<=r.length->(∀j,j<k->l[j]? =r[j]?)->Lib.compareBytes l r=Lib.compareBytes (l.drop k) (r.drop k)
 |0,l,r,_,_,_=>by simp
 |k+1,[],r,h,_,_=>by simp at h
 |k+1,_::_,[],_,h,_=>by simp at h
 |k+1,a::l,b::r,h1,h2,h=>by
  have h0:=h 0 (by omega)
  simp at h0
  subst h0
  have:=Ao k l r (by simpa using h1) (by simpa using h2) (λj hj=>by simpa using h (j+1) (by omega))
  rw[List.drop_succ_cons,List.drop_succ_cons,<-this,Lib.compareBytes]
  simp
theorem kS(s:ByteArray)(k:Nat)(h:k<s.size):aO s (k:Int)=((s.data.toList[k]'(by simpa using h)).toNat:Int):=by
 unfold aO
 rw[dif_pos (by simpa using h)]
 rfl
theorem UH(a b:ByteArray)(k:Nat)(ha:k<a.size)(hb:k<b.size)(h:∀j,j<k->aO a (j:Int)=aO b (j:Int))(hne:¬aO a (k:Int)=aO b (k:Int)):decide (Ej a b<0)=decide (aO a (k:Int)<aO b (k:Int)):=by
 have hal:k<a.data.toList.length:=by simpa using ha
 have hbl:k<b.data.toList.length:=by simpa using hb
 have e1:Ej a b=Lib.compareBytes (a.data.toList.drop k) (b.data.toList.drop k):=Ao k _ _ (by omega) (by omega) (λj hj=>by
  have:=h j hj
  rw[kS a j (by omega),kS b j (by omega)] at this
  rw[List.getElem?_eq_getElem (by omega),List.getElem?_eq_getElem (by omega)]
  congr 1
  exact UInt8.toNat_inj.1 (by omega))
 rw[kS a k ha,kS b k hb] at hne⊢
 rw[e1,List.drop_eq_getElem_cons hal,List.drop_eq_getElem_cons hbl,Lib.compareBytes]
 generalize a.data.toList[k]=p at hne⊢
 generalize b.data.toList[k]=q at hne⊢
 by_cases h1:p<q
 ·have:p.toNat<q.toNat:=h1
  rw[if_pos h1];simp[this]
 ·have h2:¬p.toNat<q.toNat:=h1
  have h3:q<p:=by show q.toNat<p.toNat;omega
  rw[if_neg h1,if_pos h3];simp;omega
theorem Ld(a b:ByteArray)(k:Nat)(hk:k=min a.size b.size)(h:∀j,j<k->aO a (j:Int)=aO b (j:Int)):decide (Ej a b<0)=decide ((a.size:Int)<b.size):=by
 have hal:a.data.toList.length=a.size:=by simp
 have hbl:b.data.toList.length=b.size:=by simp
 have e1:Ej a b=Lib.compareBytes (a.data.toList.drop k) (b.data.toList.drop k):=Ao k _ _ (by omega) (by omega) (λj hj=>by
  have:=h j hj
  rw[kS a j (by omega),kS b j (by omega)] at this
  rw[List.getElem?_eq_getElem (by omega),List.getElem?_eq_getElem (by omega)]
  congr 1
  exact UInt8.toNat_inj.1 (by omega))
 rw[e1]
 by_cases h1:a.size<b.size
 ·have e2:a.data.toList.drop k=[]:=List.drop_eq_nil_of_le (by omega)
  have e3:k<b.data.toList.length:=by omega
  rw[e2,List.drop_eq_getElem_cons e3,Lib.compareBytes]
  simp;omega
 ·by_cases h2:a.size=b.size
  ·have e2:a.data.toList.drop k=[]:=List.drop_eq_nil_of_le (by omega)
   have e3:b.data.toList.drop k=[]:=List.drop_eq_nil_of_le (by omega)
   rw[e2,e3,Lib.compareBytes];simp;omega
  ·have e2:b.data.toList.drop k=[]:=List.drop_eq_nil_of_le (by omega)
   have e3:k<a.data.toList.length:=by omega
   rw[e2,List.drop_eq_getElem_cons e3,Lib.compareBytes]
   simp;omega
theorem qb(a b:ByteArray)(ha:a.size<=4000000)(H:Hp):F Tryz.prog 59 [.v (.string a),.v (.string b)] H (bn H (.v (.bool (iO a b)))):=by
 unfold iO
 refine aA (n:=37) (H0:=H) (M:=[]) Tryz.func59 (by kernel_rfl) U (by rw[Tryz.ntmps59];rfl) .nil<|?_
 refine Q.rg<|Q.as U<|Q.nt<|S.sq<|Q.rg<|Q.as U<|Q.nt<|UW.block<|S.loop (λk:Nat=>[(5,.v (.int .i64 (k:Int))),(0,.v (.string a)),(1,.v (.string b))]) (λ_=>[]) (λk=>k<=a.size/\k<=b.size/\∀j,j<k->aO a (j:Int)=aO b (j:Int)) (λk=>a.size-k) 0 ⟨Nat.zero_le _,Nat.zero_le _,λj h=>absurd h (by omega)⟩ ⟨rfl,rfl,rfl,trivial⟩ (.refl _)<|?_
 rintro k ⟨hk,hkb,hj⟩
 by_cases hlt:k<a.size
 ·by_cases hlt2:k<b.size
  ·by_cases hne:aO a (k:Int)=aO b (k:Int)
   ·focus
     refine S.sq<|Q.rg<|Q.mv U<|Q.mv U<|S.qu (Z.fC Tryz.underlying9 U)<|Q.bi U U U<|Q.mv U<|?_
     refine S.tD 10 (λEr=>?_) (λEr=>?_)
     rotate_left
     omega
     refine Q.on (Z.mv U)<|Q.on (Z.mv U)<|Q.on (Z.fC Tryz.underlying9 U)<|Q.on (Z.bi U U U)<|Q.pk U U<|Q.nt<|S.cT U (decide_eq_true (by omega))<|UW.skip<|UQ.then<|S.sq<|UW.block<|S.sq<|?_
     refine' UW.dC (by kernel_rfl) [0,0,3,0,0,24,63] [some 18,some 19,some 20,some 21,some 22,some 23,some 24] [some (18,_),some (19,_),some (20,_),some (21,_),some (22,_),some (23,_),some (24,_)] [] [] U (by decide) (by decide) (I.free (by decide) U U ?gY (I.free (by decide) U U ?gZ (I.free (by decide) U U ?iK (I.free (by decide) U U ?mP (I.free (by decide) U U ?mQ (I.free (by decide) U U ?qc (I.free (by decide) U U ?qd I.nil))))))) ?oD
     case gY=>(intro _;exact Z.mv rfl)
     case gZ=>(intro _;exact Z.mv rfl)
     case iK=>(intro _;exact Z.is Tryz.underlying9 rfl rfl (by omega) (by omega))
     case mP=>(intro _;exact Z.mv rfl)
     case mQ=>(intro _;exact Z.mv rfl)
     case qc=>(intro _;exact Z.is Tryz.underlying9 rfl rfl (by omega) (by omega))
     case qd=>(intro _;exact Z.bi rfl rfl rfl)
     refine CH.nil<|?_
     simp only[app,bV]
     refine UQ.then<|S.cF U (fE (by omega))<|UW.skip<|UQ.aI<|UQ.then<|S.rg<|Q.mv U<|S.qu (Z.add (r:=((k+1:Nat):Int)) U U (IntWalk.i64_in _ (by omega)))<|Q.as U<|US.nil<|?_
     refine S.back _ ⟨rfl,rfl,rfl,trivial⟩ (.refl _) ?_ (by omega)
    refine⟨by omega,by omega,λj h3=>?_⟩
    by_cases hjk:j=k
    ·subst hjk;exact hne
    ·exact hj j (by omega)
   ·focus
     refine S.sq<|Q.rg<|Q.mv U<|Q.mv U<|S.qu (Z.fC Tryz.underlying9 U)<|Q.bi U U U<|Q.mv U<|?_
     refine S.tD 10 (λEr=>?_) (λEr=>?_)
     rotate_left
     omega
     refine Q.on (Z.mv U)<|Q.on (Z.mv U)<|Q.on (Z.fC Tryz.underlying9 U)<|Q.on (Z.bi U U U)<|Q.pk U U<|Q.nt<|S.cT U (decide_eq_true (by omega))<|UW.skip<|UQ.then<|S.sq<|UW.block<|S.sq<|?_
     refine' UW.dC (by kernel_rfl) [0,0,3,0,0,24,63] [some 18,some 19,some 20,some 21,some 22,some 23,some 24] [some (18,_),some (19,_),some (20,_),some (21,_),some (22,_),some (23,_),some (24,_)] [] [] U (by decide) (by decide) (I.free (by decide) U U ?fG (I.free (by decide) U U ?fH (I.free (by decide) U U ?iL (I.free (by decide) U U ?jF (I.free (by decide) U U ?jG (I.free (by decide) U U ?mV (I.free (by decide) U U ?mW I.nil))))))) ?lG
     case fG=>(intro _;exact Z.mv rfl)
     case fH=>(intro _;exact Z.mv rfl)
     case iL=>(intro _;exact Z.is Tryz.underlying9 rfl rfl (by omega) (by omega))
     case jF=>(intro _;exact Z.mv rfl)
     case jG=>(intro _;exact Z.mv rfl)
     case mV=>(intro _;exact Z.is Tryz.underlying9 rfl rfl (by omega) (by omega))
     case mW=>(intro _;exact Z.bi rfl rfl rfl)
     refine CH.nil<|?_
     simp only[app,bV]
     refine UQ.then<|S.cT U (jM (by omega))<|S.sq<|?_
     refine' UW.dC (by kernel_rfl) [0,0,3,0,0,24,63,127] [some 25,some 26,some 27,some 28,some 29,some 30,some 31,some 4] [some (25,_),some (26,_),some (27,_),some (28,_),some (29,_),some (30,_),some (31,_),some (4,_)] [] [] U (by decide) (by decide) (I.free (by decide) U U ?Jq (I.free (by decide) U U ?Jr (I.free (by decide) U U ?Js (I.free (by decide) U U ?Jt (I.free (by decide) U U ?Ju (I.free (by decide) U U ?Jv (I.free (by decide) U U ?Jw (I.free (by decide) U U ?Jy I.nil)))))))) ?UI
     case Jq=>(intro _;exact Z.mv rfl)
     case Jr=>(intro _;exact Z.mv rfl)
     case Js=>(intro _;exact Z.is Tryz.underlying9 rfl rfl (by omega) (by omega))
     case Jt=>(intro _;exact Z.mv rfl)
     case Ju=>(intro _;exact Z.mv rfl)
     case Jv=>(intro _;exact Z.is Tryz.underlying9 rfl rfl (by omega) (by omega))
     case Jw=>(intro _;exact Z.bi rfl rfl rfl)
     case Jy=>(intro _;exact Z.as rfl)
     refine CH.nil<|?_
     simp only[app,bV]
     refine UQ.then<|UW.ret<|UQ.az<|UQ.aj<|UQ.aj<|UQ.az<|UQ.aj<|S.bG (λ_=>au U U)<|?_
    rw[UH a b k hlt hlt2 hj hne]
  ·focus
    refine S.sq<|Q.rg<|Q.mv U<|Q.mv U<|S.qu (Z.fC Tryz.underlying9 U)<|Q.bi U U U<|Q.mv U<|?_
    refine S.tD 10 (λEr=>?_) (λEr=>?_)
    rotate_left
    omega
    refine Q.on (Z.mv U)<|Q.on (Z.mv U)<|Q.on (Z.fC Tryz.underlying9 U)<|Q.on (Z.bi U U U)<|Q.pk U U<|Q.nt<|S.cF U (decide_eq_false (by omega))<|UW.exit<|UQ.pass<|UQ.pass<|UQ.here<|UQ.then<|Q.rg<|Q.mv U<|S.qu (Z.fC Tryz.underlying9 U)<|Q.mv U<|S.qu (Z.fC Tryz.underlying9 U)<|Q.bi U U U<|Q.as U<|Q.nt<|UW.ret<|S.bG (λ_=>au U U)<|?_
   rw[Ld a b k (by omega) hj]
 ·refine S.sq<|Q.rg<|Q.mv U<|Q.mv U<|S.qu (Z.fC Tryz.underlying9 U)<|Q.bi U U U<|Q.mv U<|?_
  refine S.tD 10 (λEr=>?_) (λEr=>?_)
  omega
  refine Q.of<|Q.of<|Q.of<|Q.of<|Q.pk U U<|Q.nt<|S.cF U U<|UW.exit<|UQ.pass<|UQ.pass<|UQ.here<|UQ.then<|Q.rg<|Q.mv U<|S.qu (Z.fC Tryz.underlying9 U)<|Q.mv U<|S.qu (Z.fC Tryz.underlying9 U)<|Q.bi U U U<|Q.as U<|Q.nt<|UW.ret<|S.bG (λ_=>au U U)<|?_
  rw[Ld a b k (by omega) hj]
theorem BQ(l r:List ByteArray)(hl:l.length<=1000000)(H:Hp):F Tryz.prog 37 [strs l,strs r] H (bn H (.v (.bool (x8 Jo l r)))):=by
 have BM:(l.map encS).length=l.length:=List.length_map ..
 have hmr:(r.map encS).length=r.length:=List.length_map ..
 refine aA (n:=26) (H0:=H) (M:=[]) Tryz.func37 (by kernel_rfl) U (by rw[Tryz.ntmps37];rfl) .nil<|?_
 by_cases hlen:l.length=r.length
 ·refine Q.rg<|Q.as U<|Q.nt<|S.sq<|Q.rg<|Q.mv U<|S.qu (Z.iy bS U)<|Q.mv U<|S.qu (Z.iy bS U)<|Q.bi U U U<|Q.nt<|S.cF U (fE (by omega))<|UW.skip<|UQ.then<|S.sq<|Q.rg<|Q.as U<|Q.nt<|UW.block<|S.loop (λk:Nat=>[(5,.v (.int .i64 (k:Int))),(0,strs l),(1,strs r)]) (λ_=>[]) (λk=>k<=l.length/\∀(j:Nat) (h:j<l.length) (h':j<r.length),j<k->Jo l[j] r[j]=true) (λk=>l.length-k) 0 ⟨Nat.zero_le _,λj _ _ h=>absurd h (by omega)⟩ ⟨rfl,rfl,rfl,trivial⟩ (.refl _)<|?_
  rintro k ⟨hk,hj⟩
  by_cases hlt:k<l.length
  ·have hgr:=gT r k (by omega)
   focus
    refine S.sq<|Q.rg<|Q.mv U<|Q.mv U<|S.qu (Z.iy bS U)<|Q.bi U U U<|Q.nt<|S.cT U (decide_eq_true (by omega))<|UW.skip<|UQ.then<|S.sq<|UW.block<|S.sq<|?_
    refine' UW.dC (by kernel_rfl) [0,0,3,7,0,0,48,112,255] [some 17,some 18,some 19,some 20,some 21,some 22,some 23,some 24,some 25] [some (17,_),some (18,_),some (19,_),some (20,_),some (21,_),some (22,_),some (23,_),some (24,_),some (25,_)] [] [3,7] U (by decide) (by decide) (I.free (by decide) U U ?jH (I.free (by decide) U U ?jI (I.free (by decide) U U ?qf (I.held (by decide) U U ?uu (I.free (by decide) U U ?uw (I.free (by decide) U U ?uy (I.free (by decide) U U ?uz (I.held (by decide) U U ?uA (I.free (by decide) U U ?uB I.nil))))))))) ?uC
    case jH=>(intro _;exact Z.mv rfl)
    case jI=>(intro _;exact Z.mv rfl)
    case qf=>(intro _;exact Z.ia bS rfl rfl (by omega) (gT _ _ (by omega)) (by rfl))
    case uu=>exact Z.lF fJ rfl
    case uw=>(intro _;exact Z.mv rfl)
    case uy=>(intro _;exact Z.mv rfl)
    case uz=>(intro _;exact Z.ia bS rfl rfl (by omega) (by assumption) (by rfl))
    case uA=>exact Z.lF fJ rfl
    case uB=>(intro _;exact Z.bs rfl rfl rfl)
    refine CH.nil<|?_
    simp only[app,bV]
    refine UQ.then<|?_
    refine S.cO U (λhc25=>?_) (λhc25=>?_)
    refine Q.rg<|Q.as U<|Q.nt<|UW.ret<|UQ.az<|UQ.aj<|UQ.aj<|UQ.az<|UQ.aj<|S.bG (λ_=>au U U)<|?_
    rotate_left
    refine UW.skip<|UQ.aI<|UQ.then<|S.rg<|Q.mv U<|S.qu (Z.add (r:=((k+1:Nat):Int)) U U (IntWalk.i64_in _ (by omega)))<|Q.as U<|US.nil<|?_
    refine S.back _ ⟨rfl,rfl,rfl,trivial⟩ (.refl _) ?_ (by omega)
    rotate_left
   ·rw[Em k hlt (by omega) (by unfold Jo;simpa using hc25)]
   ·refine⟨by omega,λj h3 h4 h5=>?_⟩
    by_cases hjk:j=k
    ·subst hjk;unfold Jo;simpa using hc25
    ·exact hj j h3 h4 (by omega)
  ·refine S.sq<|Q.rg<|Q.mv U<|Q.mv U<|S.qu (Z.iy bS U)<|Q.bi U U U<|Q.nt<|S.cF U (decide_eq_false (by omega))<|UW.exit<|UQ.pass<|UQ.pass<|UQ.here<|UQ.then<|Q.rg<|Q.as U<|Q.nt<|UW.ret<|S.bG (λ_=>au U U)<|?_
   rw[si hlen (λi h1 h2=>hj i h1 h2 (by omega))]
 ·refine Q.rg<|Q.as U<|Q.nt<|S.sq<|Q.rg<|Q.mv U<|S.qu (Z.iy bS U)<|Q.mv U<|S.qu (Z.iy bS U)<|Q.bi U U U<|Q.nt<|S.cT U (jM (by omega))<|Q.rg<|Q.as U<|Q.nt<|UW.ret<|UQ.aj<|S.bG (λ_=>au U U)<|?_
  rw[Ai hlen]
def gI(c:Int):Int:=if c=34 then 34 else if c=92 then 92 else if c=8 then 98 else if c=9 then 116 else if c=10 then 110 else if c=12 then 102 else if c=13 then 114 else 0
theorem Ap(c:Int):0<=gI c/\gI c<256:=by unfold gI;(repeat' split)<;>omega
theorem x9(c:Int)(H:Hp):F Tryz.prog 46 [.v (.int .u8 c)] H (bn H (.v (.int .u8 (gI c)))):=by
 refine aA (n:=18) (H0:=H) (M:=[]) Tryz.func46 (by kernel_rfl) U (by rw[Tryz.ntmps46];rfl) .nil<|?_
 refine Q.rg<|Q.as U<|Q.nt<|S.sq<|Q.rg<|Q.mv U<|Q.nt<|UW.block<|S.sq<|Q.rg<|Q.bi U U U<|Q.as U<|Q.nt<|?_
 refine S.cE U (λhc4=>?_) (λhc4=>?_)
 refine UW.skip<|UQ.then<|S.cT U (cZ (by omega))<|Q.rg<|Q.mv U<|Q.as U<|Q.nt<|UW.ret<|UQ.az<|UQ.aj<|S.bG (λ_=>au U U)<|?_
 focus (congr 2;unfold gI;(repeat' split)<;>omega;done)
 refine S.rg<|Q.bi U U U<|Q.as U<|Q.nt<|?_
 refine S.cE U (λhc4=>?_) (λhc4=>?_)
 refine Q.rg<|Q.mv U<|Q.as U<|Q.nt<|UW.ret<|UQ.az<|UQ.aj<|S.bG (λ_=>au U U)<|?_
 focus (congr 2;unfold gI;(repeat' split)<;>omega;done)
 refine Q.rg<|Q.bi U U U<|Q.as U<|Q.nt<|?_
 refine S.cE U (λhc8=>?_) (λhc8=>?_)
 refine Q.rg<|Q.as U<|Q.nt<|UW.ret<|UQ.az<|UQ.aj<|S.bG (λ_=>au U U)<|?_
 focus (congr 2;unfold gI;(repeat' split)<;>omega;done)
 refine Q.rg<|Q.bi U U U<|Q.as U<|Q.nt<|?_
 refine S.cE U (λEr=>?_) (λEr=>?_)
 refine Q.rg<|Q.as U<|Q.nt<|UW.ret<|UQ.az<|UQ.aj<|S.bG (λ_=>au U U)<|?_
 focus (congr 2;unfold gI;(repeat' split)<;>omega;done)
 refine Q.rg<|Q.bi U U U<|Q.as U<|Q.nt<|?_
 refine S.cE U (λyc=>?_) (λyc=>?_)
 refine Q.rg<|Q.as U<|Q.nt<|UW.ret<|UQ.az<|UQ.aj<|S.bG (λ_=>au U U)<|?_
 focus (congr 2;unfold gI;(repeat' split)<;>omega;done)
 refine Q.rg<|Q.bi U U U<|Q.as U<|Q.nt<|?_
 refine S.cE U (λJz=>?_) (λJz=>?_)
 refine Q.rg<|Q.as U<|Q.nt<|UW.ret<|UQ.az<|UQ.aj<|S.bG (λ_=>au U U)<|?_
 focus (congr 2;unfold gI;(repeat' split)<;>omega;done)
 refine Q.rg<|Q.bi U U U<|Q.as U<|Q.nt<|?_
 refine S.cE U (λhc16=>?_) (λhc16=>?_)
 refine Q.rg<|Q.as U<|Q.nt<|UW.ret<|UQ.az<|UQ.aj<|S.bG (λ_=>au U U)<|?_
 focus (congr 2;unfold gI;(repeat' split)<;>omega;done)
 refine UW.skip<|UQ.aI<|UQ.then<|Q.rg<|Q.as U<|Q.nt<|UW.ret<|S.bG (λ_=>au U U)<|?_
 focus (congr 2;unfold gI;(repeat' split)<;>omega;done)
def qM:ByteArray:=⟨#[34,92,8,9,10,12,13]⟩
def YJ:ByteArray:=⟨#[34,92,98,116,110,102,114]⟩
theorem short_at:∀j:Fin 7,gI (aO qM (j.val:Int))=aO YJ (j.val:Int):=by decide
theorem NZ(c:Int)(h:∀i:Nat,i<7->¬aO qM (i:Int)=c):gI c=0:=by
 have h0:=h 0 (by decide);have h1:=h 1 (by decide);have h2:=h 2 (by decide);have h3:=h 3 (by decide);have h4:=h 4 (by decide);have h5:=h 5 (by decide);have h6:=h 6 (by decide)
 rw[show aO qM (0:Nat)=34 from by decide] at h0
 rw[show aO qM (1:Nat)=92 from by decide] at h1
 rw[show aO qM (2:Nat)=8 from by decide] at h2
 rw[show aO qM (3:Nat)=9 from by decide] at h3
 rw[show aO qM (4:Nat)=10 from by decide] at h4
 rw[show aO qM (5:Nat)=12 from by decide] at h5
 rw[show aO qM (6:Nat)=13 from by decide] at h6
 unfold gI;(repeat' split)<;>omega
theorem qg(c:Int)(H:Hp):F Tryz.prog 52 [.v (.int .u8 c)] H (bn H (.v (.int .u8 (gI c)))):=by
 refine aA (n:=14) (H0:=H) (M:=[]) Tryz.func52 (by kernel_rfl) U (by rw[Tryz.ntmps52];rfl) .nil<|?_
 refine Q.rg<|Q.as U<|Q.nt<|S.sq<|Q.rg<|Q.as U<|Q.nt<|UW.block<|S.loop (λj:Nat=>[(3,.v (.int .i64 (j:Int))),(0,.v (.int .u8 c))]) (λ_=>[]) (λj=>j<=7/\∀i:Nat,i<j->¬aO qM (i:Int)=c) (λj=>7-j) 0 ⟨Nat.zero_le _,λi h=>absurd h (by omega)⟩ ⟨rfl,rfl,trivial⟩ (.refl _)<|?_
 rintro j ⟨hj,hjj⟩
 have hf7:(qM.size:Int)=7:=rfl
 have ht7:(YJ.size:Int)=7:=rfl
 by_cases hlt:j<7
 ·refine S.sq<|Q.rg<|Q.mv U<|Q.bi U U U<|Q.nt<|S.cT U (decide_eq_true (by omega))<|UW.skip<|UQ.then<|S.sq<|UW.block<|Q.rg<|Q.mv U<|S.qu (Z.is (p:=qM) Tryz.underlying9 U U (by omega) (by show _<(7:Int);omega))<|?_
  refine Q.mv U<|Q.bi U U U<|Q.nt<|?_
  refine S.cE U (λiQ=>?_) (λiQ=>?_)
  refine Q.rg<|Q.mv U<|S.qu (Z.is (p:=YJ) Tryz.underlying9 U U (by omega) (by show _<(7:Int);omega))<|?_
  refine Q.as U<|Q.nt<|UW.ret<|UQ.az<|UQ.aj<|UQ.aj<|UQ.az<|UQ.aj<|S.bG (λ_=>au U U)<|?_
  focus (first|(rw[<-iQ,short_at ⟨j,hlt⟩])|exact⟨by omega,λi hi=>by by_cases h:i=j;(subst h;exact iQ);exact hjj i (by omega)⟩;done)
  refine UW.skip<|UQ.aI<|UQ.then<|S.rg<|Q.mv U<|S.qu (Z.add (r:=((j+1:Nat):Int)) U U (IntWalk.i64_in _ (by omega)))<|Q.as U<|US.nil<|?_
  refine S.back _ ⟨rfl,rfl,trivial⟩ (.refl _) ?_ (by omega)
  focus (first|(rw[<-iQ,short_at ⟨j,hlt⟩])|exact⟨by omega,λi hi=>by by_cases h:i=j;(subst h;exact iQ);exact hjj i (by omega)⟩;done)
 ·refine S.sq<|Q.rg<|Q.mv U<|Q.bi U U U<|Q.nt<|S.cF U (decide_eq_false (by omega))<|UW.exit<|UQ.pass<|UQ.pass<|UQ.here<|UQ.then<|Q.rg<|Q.as U<|Q.nt<|UW.ret<|S.bG (λ_=>au U U)<|?_
  focus (rw[NZ c (λi hi=>hjj i (by omega))];done)
def eD:ByteArray:=⟨#[48,49,50,51,52,53,54,55,56,57,97,98,99,100,101,102]⟩
def uS:ByteArray:=⟨#[92,117,48,48]⟩
def lU(x:ByteArray)(c:Int):ByteArray:=if gI c≠0 then(x++aM 92)++aM (gI c) else if c<32 then((x++uS)++aM (aO eD (c/16)))++aM (aO eD (c % 16)) else x++aM c
def dI(s:ByteArray):Nat->ByteArray
 |0=>⟨#[]⟩++aM 34
 |k+1=>lU (dI s k) (aO s (k:Int))
def dJ(s:ByteArray):ByteArray:=dI s s.size++aM 34
theorem Mo(x:ByteArray)(c:Int):(lU x c).size<=x.size+6:=by
 unfold lU
 (repeat' split)<;>simp only[aY,aW]<;>have:uS.size=4:=rfl<;>omega
theorem nQ(s:ByteArray):∀k,(dI s k).size<=6*k+1
 |0=>by show(⟨#[]⟩++aM 34:ByteArray).size<=_;rw[aY,aW];exact Nat.le_refl 1
 |k+1=>by have:=nQ s k;have h2:=Mo (dI s k) (aO s (k:Int));show(lU _ _).size<=_;omega
theorem rC(s:ByteArray):(dJ s).size<=6*s.size+2:=by have:=nQ s s.size;unfold dJ;rw[aY,aW];omega
theorem Xg(c:Int)(h0:0<=c)(h1:c<256):IntKind.u8.wrap ((BitVec.ofInt IntKind.u8.bits c&&&BitVec.ofInt IntKind.u8.bits 15).toNat)=c % 16:=by
 have h:∀n:Fin 256,IntKind.u8.wrap ((BitVec.ofInt IntKind.u8.bits (n.val:Int)&&&BitVec.ofInt IntKind.u8.bits 15).toNat)=(n.val:Int)% 16:=by decide
 have:=h ⟨c.toNat,by omega⟩
 rwa [show(((⟨c.toNat,by omega⟩:Fin 256).val:Nat):Int)=c from by show((c.toNat:Nat):Int)=c;omega] at this
theorem YK(c:Int):c.fdiv 16=c/16:=Int.fdiv_eq_ediv_of_nonneg _ (by decide)
theorem jW(p r:Nat)(a:AV)(ha:Xd p a)(s s':ByteArray)(hs:s.size<=100000000000000)(c:Int)(h0:0<=c)(h1:c<256)(h:s++aM c=s')(G:Hp)(hd:aK G (sV p r a s)):F Tryz.prog 45 [.ptr p 0,.v (.int .u8 c)] (aB G (sV p r a s)) (λu H'=>∃news,aK G news/\H'=aB G news/\Qh p s' (.v .nilIface) u news):=by
 subst h;exact mI p r a ha s hs c h0 h1 G hd
theorem Aq(s:ByteArray)(hs:s.size<=1000000000000)(H:Hp):F Tryz.prog 29 [.v (.string s)] H (bn H (.v (.string (dJ s)))):=by
 refine aA (n:=41) (H0:=H) (M:=[]) Tryz.func29 (by kernel_rfl) U (by rw[Tryz.ntmps29];rfl) .nil<|?_
 refine Q.rg<|Q.as U<|Q.nt<|Q.rg<|S.dd<|D.ZI z79 U U λp=>?_
 (refine US.vO (sz:=1) 0 1 5 (by decide) U U (λr0=>?_);simp only[List.set_cons_zero,List.set_cons_succ])
 refine Q.nt<|Q.rg<|S.dd<|D.co (.cons 0 U (.cons 0 U .nil)) U U (λG hD=>jW p r0 (.v (.pointer none)) (.inl U) ⟨#[]⟩ (dI s 0) (by decide) 34 (by decide) (by decide) U G hD)<|?_
 (rintro _ _ ⟨rfl,r1,rfl⟩;simp only[sV,List.cons_append,List.nil_append])
 refine Q.nt<|S.sq<|Q.rg<|Q.mv U<|S.qu (Z.fC Tryz.underlying9 U)<|Q.mv U<|Q.nt<|UW.block<|S.loop (λj:Nat×Nat=>[(10,.v (.int .i64 (j.1:Int))),(9,.v (.int .i64 (s.size:Int))),(3,.ptr p 0),(0,.v (.string s))]) (λj=>sV p j.2 (.ptr p 0) (dI s j.1)) (λj=>j.1<=s.size) (λj=>s.size-j.1) (0,r1) (Nat.zero_le _) ⟨rfl,rfl,rfl,rfl,trivial⟩ (.refl _)<|?_
 rintro⟨j,r⟩ hj
 simp only at hj
 have hN:=nQ s j
 have hb:=gG s (j:Int)
 have hsb:=Ap (aO s (j:Int))
 simp only[sV]
 by_cases hlt:j<s.size
 ·by_cases hq:gI (aO s (j:Int))=0
  ·by_cases hq2:aO s (j:Int)<32
   ·have hst:dI s (j+1)=((dI s j++uS)++aM (aO eD (aO s (j:Int)/16)))++aM (aO eD (aO s (j:Int)% 16)):=by show lU _ _=_;unfold lU;rw[if_neg (λh=>h hq),if_pos hq2]
    have hx1:=gG eD (aO s (j:Int)/16)
    have hx2:=gG eD (aO s (j:Int)% 16)
    have hz1:(dI s j++uS).size<=100000000000000:=by rw[aY];have:uS.size=4:=rfl;omega
    have hz2:((dI s j++uS)++aM (aO eD (aO s (j:Int)/16))).size<=100000000000000:=by rw[aY,aW,aY];have:uS.size=4:=rfl;omega
    refine Q.rg<|Q.bi U U U<|Q.nt<|S.sq<|S.cT U (decide_eq_true (by omega))<|UW.skip<|UQ.then<|S.sq<|UW.block<|Q.rg<|Q.mv U<|Q.as U<|Q.nt<|Q.rg<|Q.mv U<|Q.mv U<|S.dd<|D.ib Tryz.underlying9 U U (by omega) (by omega) λZK=>Q.as U<|Q.nt<|Q.rg<|Q.mv U<|S.qu (Z.eq (u':=.v (.int .u8 0)) (Z.call U U (λ_=>x9 _ _)) (by rw[hq]))<|?_
    refine Q.as U<|Q.nt<|UW.block<|Q.rg<|Q.mv U<|Q.bi U U U<|Q.as U<|Q.nt<|S.cF U (fE (by omega))<|Q.rg<|Q.mv U<|Q.bi U U U<|Q.as U<|Q.nt<|S.cT U (decide_eq_true (by omega))<|Q.rg<|S.dd<|D.co (.cons 0 U (.cons 0 U .nil)) U U (λG hD=>xX p r (.ptr p 0) (.inr U) (dI s j) (by omega) uS (by decide) G hD)<|?_
    (rintro _ _ ⟨rfl,r2,rfl⟩;simp only[sV,List.cons_append,List.nil_append])
    refine Q.nt<|Q.rg<|Q.mv U<|S.qu (Z.shr (r:=aO s (j:Int)/16) U U (by decide) (YK _))<|S.qu (Z.is (p:=eD) Tryz.underlying9 U U (by omega) (by show _<(16:Int);omega))<|?_
    refine S.dd<|D.co (.cons 0 U (.cons 0 U .nil)) U U (λG hD=>mI p r2 (.ptr p 0) (.inr U) _ hz1 _ hx1.1 hx1.2 G hD)<|?_
    (rintro _ _ ⟨rfl,r3,rfl⟩;simp only[sV,List.cons_append,List.nil_append])
    refine Q.nt<|S.rg<|Q.mv U<|S.qu (Z.eq (u':=.v (.int .u8 (aO s (j:Int)% 16))) (Z.bi U U U) (by rw[Xg _ hb.1 hb.2]))<|?_
    refine S.qu (Z.is (p:=eD) Tryz.underlying9 U U (by omega) (by show _<(16:Int);omega))<|?_
    refine S.dd<|D.co (.cons 0 U (.cons 0 U .nil)) U U (λG hD=>jW p r3 (.ptr p 0) (.inr U) _ (dI s (j+1)) hz2 _ hx2.1 hx2.2 hst.symm G hD)<|?_
    (rintro _ _ ⟨rfl,r4,rfl⟩;simp only[sV,List.cons_append,List.nil_append])
    refine US.nil<|UQ.aI<|UQ.aI<|UQ.then<|S.rg<|S.qu (Z.add (r:=((j+1:Nat):Int)) U U (IntWalk.i64_in _ (by omega)))<|Q.mv U<|US.nil<|?_
    refine S.back (j+1,r4) ⟨rfl,rfl,rfl,rfl,trivial⟩ (.refl _) (by omega) (by omega)
   ·have hst:dI s (j+1)=dI s j++aM (aO s (j:Int)):=by show lU _ _=_;unfold lU;rw[if_neg (λh=>h hq),if_neg hq2]
    refine Q.rg<|Q.bi U U U<|Q.nt<|S.sq<|S.cT U (decide_eq_true (by omega))<|UW.skip<|UQ.then<|S.sq<|UW.block<|Q.rg<|Q.mv U<|Q.as U<|Q.nt<|Q.rg<|Q.mv U<|Q.mv U<|S.dd<|D.ib Tryz.underlying9 U U (by omega) (by omega) λZK=>Q.as U<|Q.nt<|Q.rg<|Q.mv U<|S.qu (Z.eq (u':=.v (.int .u8 0)) (Z.call U U (λ_=>x9 _ _)) (by rw[hq]))<|?_
    refine Q.as U<|Q.nt<|UW.block<|Q.rg<|Q.mv U<|Q.bi U U U<|Q.as U<|Q.nt<|S.cF U (fE (by omega))<|Q.rg<|Q.mv U<|Q.bi U U U<|Q.as U<|Q.nt<|S.cF U (decide_eq_false (by omega))<|S.rg<|Q.mv U<|S.dd<|D.co (.cons 0 U (.cons 0 U .nil)) U U (λG hD=>jW p r (.ptr p 0) (.inr U) _ (dI s (j+1)) (by omega) _ hb.1 hb.2 hst.symm G hD)<|?_
    (rintro _ _ ⟨rfl,r4,rfl⟩;simp only[sV,List.cons_append,List.nil_append])
    refine US.nil<|UQ.aI<|UQ.aI<|UQ.then<|S.rg<|S.qu (Z.add (r:=((j+1:Nat):Int)) U U (IntWalk.i64_in _ (by omega)))<|Q.mv U<|US.nil<|?_
    refine S.back (j+1,r4) ⟨rfl,rfl,rfl,rfl,trivial⟩ (.refl _) (by omega) (by omega)
  ·have hst:dI s (j+1)=(dI s j++aM 92)++aM (gI (aO s (j:Int))):=by show lU _ _=_;unfold lU;rw[if_pos hq]
   have hz1:(dI s j++aM 92).size<=100000000000000:=by rw[aY,aW];omega
   refine Q.rg<|Q.bi U U U<|Q.nt<|S.sq<|S.cT U (decide_eq_true (by omega))<|UW.skip<|UQ.then<|S.sq<|UW.block<|Q.rg<|Q.mv U<|Q.as U<|Q.nt<|Q.rg<|Q.mv U<|Q.mv U<|S.dd<|D.ib Tryz.underlying9 U U (by omega) (by omega) λZK=>Q.as U<|Q.nt<|Q.rg<|Q.mv U<|S.qu (Z.call U U (λ_=>x9 _ _))<|Q.as U<|Q.nt<|UW.block<|Q.rg<|Q.mv U<|Q.bi U U U<|Q.as U<|Q.nt<|S.cT U (jM (by omega))<|Q.rg<|S.dd<|D.co (.cons 0 U (.cons 0 U .nil)) U U (λG hD=>mI p r (.ptr p 0) (.inr U) (dI s j) (by omega) 92 (by decide) (by decide) G hD)<|?_
   (rintro _ _ ⟨rfl,r2,rfl⟩;simp only[sV,List.cons_append,List.nil_append])
   refine Q.nt<|S.rg<|Q.mv U<|S.dd<|D.co (.cons 0 U (.cons 0 U .nil)) U U (λG hD=>jW p r2 (.ptr p 0) (.inr U) _ (dI s (j+1)) hz1 _ hsb.1 hsb.2 hst.symm G hD)<|?_
   (rintro _ _ ⟨rfl,r4,rfl⟩;simp only[sV,List.cons_append,List.nil_append])
   refine US.nil<|UQ.aI<|UQ.aI<|UQ.then<|S.rg<|S.qu (Z.add (r:=((j+1:Nat):Int)) U U (IntWalk.i64_in _ (by omega)))<|Q.mv U<|US.nil<|?_
   refine S.back (j+1,r4) ⟨rfl,rfl,rfl,rfl,trivial⟩ (.refl _) (by omega) (by omega)
 ·have hjs:j=s.size:=by omega
  have hz:dI s j++aM 34=dJ s:=by rw[hjs];rfl
  have hp:0<(dJ s).size:=by rw[<-hz,aY,aW];omega
  have hq:=rC s
  refine Q.rg<|Q.bi U U U<|Q.nt<|S.sq<|S.cF U (decide_eq_false (by omega))<|UW.exit<|UQ.pass<|UQ.pass<|UQ.here<|UQ.then<|Q.rg<|S.dd<|D.co (.cons 0 U (.cons 0 U .nil)) U U (λG hD=>jW p r (.ptr p 0) (.inr U) _ (dJ s) (by omega) 34 (by decide) (by decide) hz G hD)<|?_
  (rintro _ _ ⟨rfl,r4,rfl⟩;simp only[sV,List.cons_append,List.nil_append])
  refine Q.nt<|Q.rg<|S.dd<|D.co (.cons 0 U (.cons 0 U .nil)) U U (λG hD=>rz p r4 (.ptr p 0) (dJ s) hp (by omega) G hD)<|?_
  (rintro _ _ ⟨rfl,rfl⟩;simp only[List.nil_append])
  refine Q.as U<|Q.nt<|UW.ret<|S.bG (λ_=>au U U)<|?_
  rfl
theorem nR(s:ByteArray)(k:Nat)(h:k<s.size):s.extract k (k+1)=aM (aO s (k:Int)):=by
 have hk:k<s.data.toList.length:=by simpa using h
 apply ByteArray.ext
 apply Array.ext'
 rw[ByteArray.data_extract,Array.toList_extract,kS s k h]
 show List.extract _ _ _=[UInt8.ofNat _]
 rw[Int.toNat_natCast,UInt8.ofNat_toNat]
 unfold List.extract
 rw[show k+1-k=1 from by omega,List.drop_eq_getElem_cons hk];rfl
theorem Tn(a b:Int)(ha:0<=a/\a<256)(hb:0<=b/\b<256):AV.sl [[.v (.int .u8 a)],[.v (.int .u8 b)]]=.sl (aU (aM a++aM b)):=by rw[df,bM ha.1 ha.2,bM hb.1 hb.2];rfl
theorem CB(a:Int)(ha:0<=a/\a<256):AV.sl [[.v (.int .u8 a)]]=.sl (aU (aM a)):=by rw[bM ha.1 ha.2]
theorem rD(s:ByteArray)(hs:s.size<=1000000000000)(H:Hp):F Tryz.prog 34 [.v (.string s)] H (bn H (.v (.string (dJ s)))):=by
 refine aA (n:=47) (H0:=H) (M:=[]) Tryz.func34 (by kernel_rfl) U (by rw[Tryz.ntmps34];rfl) .nil<|?_
 refine Q.rg<|Q.as U<|Q.nt<|Q.rg<|Q.as U<|Q.nt<|S.sq<|Q.rg<|Q.as U<|Q.nt<|UW.block<|S.loop (λj:Nat=>[(4,.v (.int .i64 (j:Int))),(3,.v (.string (dI s j))),(0,.v (.string s))]) (λ_=>[]) (λj=>j<=s.size) (λj=>s.size-j) 0 (Nat.zero_le _) ⟨rfl,rfl,rfl,trivial⟩ (.refl _)<|?_
 rintro j hj
 have hN:=nQ s j
 have hb:=gG s (j:Int)
 have hsb:=Ap (aO s (j:Int))
 by_cases hlt:j<s.size
 ·by_cases hq:gI (aO s (j:Int))=0
  ·by_cases hq2:aO s (j:Int)<32
   ·have hx1:=gG eD (aO s (j:Int)/16)
    have hx2:=gG eD (aO s (j:Int)% 16)
    have hst:(dI s j++uS)++(aM (aO eD (aO s (j:Int)/16))++aM (aO eD (aO s (j:Int)% 16)))=dI s (j+1):=by show _=lU _ _;unfold lU;rw[if_neg (λh=>h hq),if_pos hq2,<-ByteArray.append_assoc]
    refine S.sq<|Q.rg<|Q.mv U<|Q.mv U<|S.qu (Z.fC Tryz.underlying9 U)<|Q.bi U U U<|Q.nt<|S.cT U (decide_eq_true (by omega))<|UW.skip<|UQ.then<|S.sq<|UW.block<|Q.rg<|Q.mv U<|Q.mv U<|S.dd<|D.ib Tryz.underlying9 U U (by omega) (by omega) λMe=>Q.as U<|Q.nt<|Q.rg<|Q.mv U<|S.qu (Z.eq (u':=.v (.int .u8 0)) (Z.call U U (λ_=>qg _ _)) (by rw[hq]))<|?_
    refine Q.bi U U U<|Q.nt<|S.cF U (fE (by omega))<|Q.rg<|Q.mv U<|Q.bi U U U<|Q.nt<|S.cT U (decide_eq_true (by omega))<|?_
    refine' UW.dC (by kernel_rfl) [0,1,0,4,12,0,32,96,252,508,1023,2047] [some 27,some 28,some 29,some 30,some 31,some 32,some 33,some 34,some 35,some 36,some 37,some 3] [some (27,_),some (28,_),some (29,_),some (30,_),some (31,_),some (32,_),some (33,_),some (34,_),some (35,_),some (36,_),some (37,_),some (3,_)] [] [] U (by decide) (by decide) (I.free (by decide) U U ?jH (I.free (by decide) U U ?jI (I.free (by decide) U U ?qf (I.free (by decide) U U ?uu (I.free (by decide) U U ?uw (I.free (by decide) U U ?uy (I.free (by decide) U U ?uz (I.free (by decide) U U ?uA (I.free (by decide) U U ?uB (I.free (by decide) U U ?Ar (I.free (by decide) U U ?vU (I.free (by decide) U U ?vV I.nil)))))))))))) ?uC
    case jH=>(intro _;exact Z.mv rfl)
    case jI=>(intro _;exact Z.cat (q:=uS) rfl rfl (by show _+4<=_;omega))
    case qf=>(intro _;exact Z.mv rfl)
    case uu=>(intro _;exact Z.eq (u':=.v (.int .u8 (aO s (j:Int)/16))) (Z.bi rfl rfl rfl) (by rw[IntWalk.u8_in _ (by rw[Int.tdiv_eq_ediv_of_nonneg hb.1];omega),Int.tdiv_eq_ediv_of_nonneg hb.1]))
    case uw=>(intro _;exact Z.is (p:=eD) Tryz.underlying9 rfl rfl (by omega) (by show _<(16:Int);omega))
    case uy=>(intro _;exact Z.mv rfl)
    case uz=>(intro _;exact Z.eq (u':=.v (.int .u8 (aO s (j:Int)% 16))) (Z.bi rfl rfl rfl) (by rw[Int.tmod_eq_emod_of_nonneg hb.1]))
    case uA=>(intro _;exact Z.is (p:=eD) Tryz.underlying9 rfl rfl (by omega) (by show _<(16:Int);omega))
    case uB=>(intro _;exact Z.bl iT rfl rfl (dx rfl))
    case Ar=>(intro _;exact Z.PS (s:=aM (aO eD (aO s (j:Int)/16))++aM (aO eD (aO s (j:Int)% 16))) Tryz.underlying22 Tryz.underlying5 Tryz.underlying9 (congrArg some (Tn _ _ hx1 hx2)))
    case vU=>(intro _;exact Z.eq (u':=.v (.string (dI s (j+1)))) (Z.cat rfl rfl (by rw[aY,aY,aW,aW];show _+4+2<=_;omega)) (by rw[hst]))
    case vV=>(intro _;exact Z.as rfl)
    refine CH.nil<|?_
    simp only[app,bV]
    refine UQ.aI<|UQ.then<|S.rg<|Q.mv U<|S.qu (Z.add (r:=((j+1:Nat):Int)) U U (IntWalk.i64_in _ (by omega)))<|Q.as U<|US.nil<|?_
    refine S.back _ ⟨rfl,rfl,rfl,trivial⟩ (.refl _) (by omega) (by omega)
   ·have hst:dI s j++s.extract j (j+1)=dI s (j+1):=by rw[nR s j hlt];show _=lU _ _;unfold lU;rw[if_neg (λh=>h hq),if_neg hq2]
    refine S.sq<|Q.rg<|Q.mv U<|Q.mv U<|S.qu (Z.fC Tryz.underlying9 U)<|Q.bi U U U<|Q.nt<|S.cT U (decide_eq_true (by omega))<|UW.skip<|UQ.then<|S.sq<|UW.block<|Q.rg<|Q.mv U<|Q.mv U<|S.dd<|D.ib Tryz.underlying9 U U (by omega) (by omega) λMe=>Q.as U<|Q.nt<|Q.rg<|Q.mv U<|S.qu (Z.eq (u':=.v (.int .u8 0)) (Z.call U U (λ_=>qg _ _)) (by rw[hq]))<|?_
    refine Q.bi U U U<|Q.nt<|S.cF U (fE (by omega))<|Q.rg<|Q.mv U<|Q.bi U U U<|Q.nt<|S.cF U (decide_eq_false (by omega))<|S.rg<|Q.mv U<|Q.mv U<|Q.mv U<|Q.mv U<|S.qu (Z.add (r:=((j+1:Nat):Int)) U U (IntWalk.i64_in _ (by omega)))<|S.qu (Z.slt Tryz.underlying9 U (.both U U) (by omega) (by omega))<|S.qu (Z.eq (u':=.v (.string (dI s (j+1)))) (Z.cat U U (by rw[nR s j hlt,aW];omega)) (by rw[hst]))<|?_
    refine Q.as U<|US.nil<|UQ.aI<|UQ.then<|S.rg<|Q.mv U<|S.qu (Z.add (r:=((j+1:Nat):Int)) U U (IntWalk.i64_in _ (by omega)))<|Q.as U<|US.nil<|?_
    refine S.back _ ⟨rfl,rfl,rfl,trivial⟩ (.refl _) (by omega) (by omega)
  ·have hst:(dI s j++aM 92)++aM (gI (aO s (j:Int)))=dI s (j+1):=by show _=lU _ _;unfold lU;rw[if_pos hq]
   refine S.sq<|Q.rg<|Q.mv U<|Q.mv U<|S.qu (Z.fC Tryz.underlying9 U)<|Q.bi U U U<|Q.nt<|S.cT U (decide_eq_true (by omega))<|UW.skip<|UQ.then<|S.sq<|UW.block<|Q.rg<|Q.mv U<|Q.mv U<|S.dd<|D.ib Tryz.underlying9 U U (by omega) (by omega) λMe=>Q.as U<|Q.nt<|Q.rg<|Q.mv U<|S.qu (Z.call U U (λ_=>qg _ _))<|Q.bi U U U<|Q.nt<|S.cT U (jM (by omega))<|S.rg<|Q.mv U<|S.qu (Z.cat (q:=aM 92) U U (by rw[aW];omega))<|?_
   refine Q.mv U<|S.qu (Z.call U U (λ_=>qg _ _))<|S.qu (Z.bl iT U U (dx U))<|S.qu (Z.PS (s:=aM (gI (aO s (j:Int)))) Tryz.underlying22 Tryz.underlying5 Tryz.underlying9 (congrArg some (CB _ hsb)))<|S.qu (Z.eq (u':=.v (.string (dI s (j+1)))) (Z.cat U U (by rw[aY,aW,aW];omega)) (by rw[hst]))<|?_
   refine Q.as U<|US.nil<|UQ.aI<|UQ.then<|S.rg<|Q.mv U<|S.qu (Z.add (r:=((j+1:Nat):Int)) U U (IntWalk.i64_in _ (by omega)))<|Q.as U<|US.nil<|?_
   refine S.back _ ⟨rfl,rfl,rfl,trivial⟩ (.refl _) (by omega) (by omega)
 ·have hjs:j=s.size:=by omega
  have hz:dI s j++aM 34=dJ s:=by rw[hjs];rfl
  refine S.sq<|Q.rg<|Q.mv U<|Q.mv U<|S.qu (Z.fC Tryz.underlying9 U)<|Q.bi U U U<|Q.nt<|S.cF U (decide_eq_false (by omega))<|UW.exit<|UQ.pass<|UQ.pass<|UQ.here<|UQ.then<|Q.rg<|Q.mv U<|S.qu (Z.eq (u':=.v (.string (dJ s))) (Z.cat (q:=aM 34) U U (by rw[aW];omega)) (by rw[hz]))<|?_
  refine Q.as U<|Q.nt<|UW.ret<|S.bG (λ_=>au U U)<|?_
  rfl
end Go.Proofs.YtbooeongacgnbaaGreatDoor
end
