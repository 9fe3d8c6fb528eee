/- A part of the proof. -/
import Derived.Test.YtonpfomjoiaacaaGreatDoorMz41
set_option maxRecDepth 100000
set_option maxHeartbeats 4000000
set_option linter.unusedSectionVars false
set_option linter.unusedVariables false
set_option linter.unusedSimpArgs false
section
namespace Go.Proofs.YtonpfomjoiaacaaGreatDoor
open Go Go.fT Go.RowKit
theorem wE{c:Int}(h:0<=c/\c<256):eG (aN c) ((0:Nat):Int)=c:=by
 rw[iH _ _ (show 0<(aN c).size by rw[aV];decide)]
 show((UInt8.ofNat c.toNat).toNat:Int)=c
 rw[UInt8.toNat_ofNat']
 omega
theorem U2(a b:ByteArray)(j:Nat)(h:j<a.size):eG (a++b) (j:Int)=eG a (j:Int):=by
 rw[iH _ _ (by rw[aZ];omega),iH _ _ h]
 simp only[vo]
 rw[List.getElem_append_left]
theorem Qw(a b:ByteArray)(j:Nat)(h:j<b.size):eG (a++b) ((a.size+j:Nat):Int)=eG b (j:Int):=by
 rw[iH _ _ (by rw[aZ];omega),iH _ _ h]
 simp only[vo]
 have hl:a.data.toList.length=a.size:=rfl
 rw[List.getElem_append_right (by omega)]
 congr 2
 simp only[hl]
 congr 1
 omega
theorem sgn_bd(n:Int)(j:Nat):0<=SA n j/\SA n j<256:=oN _ _
theorem MM(n:Int):∀m j,j<m->eG (partT n m) (j:Int)=SA n j
 |m+1,j,h=>by
  rw[partT]
  by_cases hj:j<m
  ·rw[U2 _ _ _ (by rw[mh];exact hj)];exact MM n m j hj
  ·obtain rfl:j=m:=by omega
   have:=Qw (partT n j) (aN (SA n j)) 0 (by rw[aV];decide)
   rw[mh,Nat.add_zero] at this
   rw[this]
   exact wE (sgn_bd n j)
def T3(all:List Int)(k:Nat):ByteArray:=qp all (aK 3 k)
theorem zM(all:List Int)(k:Nat):T3 all (k+1)=T3 all k++uZ (gM all (k*3)):=by unfold T3;rw[eT,yh]
theorem CE(all:List Int):∀k,3*k<=all.length->(T3 all k).size=4*k
 |0,_=>rfl
 |k+1,h=>by rw[zM,aZ,CE all k (by omega),sU,pz];omega
theorem U3(all:List Int)(k i:Nat)(h:i<(T3 all k).size):∀d,i<(T3 all (k+d)).size/\eG (T3 all (k+d)) (i:Int)=eG (T3 all k) (i:Int)
 |0=>⟨h,rfl⟩
 |d+1=>by
  obtain⟨h1,h2⟩:=U3 all k i h d
  rw[<-Nat.add_assoc,zM]
  exact⟨by rw[aZ];omega,by rw[U2 _ _ _ h1,h2]⟩
theorem MN(all:List Int):dB all=T3 all ((all.length+2)/3):=rfl
theorem mF(all:List Int):(dB all).size=4*(all.length/3)+(if all.length % 3=0 then 0 else all.length % 3+1):=by
 rw[MN]
 split
 ·rw[show(all.length+2)/3=all.length/3 by omega,CE _ _ (by omega)];rfl
 ·rw[show(all.length+2)/3=all.length/3+1 by omega,zM,aZ,CE _ _ (by omega),sU,pz];omega
theorem rC(all:List Int)(k:Nat)(h:3*k<all.length):(gM all (k*3)).length=min 3 (all.length-3*k)/\manyN (dB all) k=(gM all (k*3)).length+1/\∀j,j<4->(4*k+j<(dB all).size↔j<(gM all (k*3)).length+1):=by
 have h1:=mF all
 have h2:=pz all (k*3)
 unfold manyN
 refine⟨by omega,?_,λj hj=>?_⟩
 ·split at h1<;>omega
 ·split at h1<;>omega
theorem CF(all:List Int)(k j:Nat)(h:3*k<all.length)(hj:j<(gM all (k*3)).length+1):eG (dB all) ((4*k+j:Nat):Int)=SA (iF (gM all (k*3)) 3) j:=by
 have hs:=CE all k (by omega)
 have hf:=sU (gM all (k*3))
 have h1:4*k+j<(T3 all (k+1)).size:=by rw[zM,aZ,hs,hf];omega
 obtain⟨_,h2⟩:=U3 all (k+1) (4*k+j) h1 ((all.length+2)/3-(k+1))
 rw[show k+1+((all.length+2)/3-(k+1))=(all.length+2)/3 by omega,<-MN] at h2
 rw[h2,zM]
 have h3:=Qw (T3 all k) (uZ (gM all (k*3))) j (by omega)
 rw[hs] at h3
 rw[h3]
 exact MM _ _ _ hj
theorem zO(all:List Int)(k j:Nat)(h:3*k<all.length)(hj4:j<4):dgt (dB all) (4*k+j)=if j<(gM all (k*3)).length+1 then LV (iF (gM all (k*3)) 3) j else 0:=by
 unfold dgt
 have hm:=(rC all k h).2.2 j hj4
 by_cases hj:j<(gM all (k*3)).length+1
 ·rw[if_pos (hm.2 hj),if_pos hj,CF all k j h hj]
  have:=yj (iF (gM all (k*3)) 3) j
  exact Fq this.1 this.2
 ·rw[if_neg (λe=>hj (hm.1 e)),if_neg hj]
theorem Bl(c:List Int):iF c 3=(c.getD 0 0*256+c.getD 1 0)*256+c.getD 2 0:=by
 show((0*256+c.getD 0 0)*256+c.getD 1 0)*256+c.getD 2 0=_
 rw[Int.zero_mul,Int.zero_add]
theorem U4(all:List Int)(hb:eO all)(k:Nat)(h:3*k<all.length):YN (dB all) k 4=iF (gM all (k*3)) 3:=by
 have d0:=zO all k 0 h (by decide)
 have d1:=zO all k 1 h (by decide)
 have d2:=zO all k 2 h (by decide)
 have d3:=zO all k 3 h (by decide)
 have hl:=(rC all k h).1
 have hc:=Cv hb (k*3)
 have b0:=hc.at 0
 have b1:=hc.at 1
 have b2:=hc.at 2
 have e:YN (dB all) k 4=64*(64*(64*(64*0+dgt (dB all) (4*k+0))+dgt (dB all) (4*k+1))+dgt (dB all) (4*k+2))+dgt (dB all) (4*k+3):=rfl
 have hf:=Bl (gM all (k*3))
 have z1:=u6 (gM all (k*3)) 1
 have z2:=u6 (gM all (k*3)) 2
 rw[e,d0,d1,d2,d3]
 generalize gM all (k*3)=c at*
 have q:∀j,LV (iF c 3) j=iF c 3/2^(18-6*j)% 64:=λj=>rfl
 rw[q 0,q 1,q 2,q 3,if_pos (by omega),if_pos (by omega)]
 generalize iF c 3=n at*
 show 64*(64*(64*(64*0+n/262144 % 64)+n/4096 % 64)+(if _ then n/64 % 64 else 0))+(if _ then n/1 % 64 else 0)=n
 by_cases h3:c.length=3
 ·rw[if_pos (by omega),if_pos (by omega)];omega
 ·have z2:=z2 (by omega)
  by_cases h2:c.length=2
  ·rw[if_pos (by omega),if_neg (by omega)];omega
  ·have z1:=z1 (by omega)
   rw[if_neg (by omega),if_neg (by omega)];omega
theorem R3(all:List Int)(hb:eO all)(k j:Nat)(h:3*k<all.length)(hj:j<3):YO (dB all) k j=(gM all (k*3)).getD j 0:=by
 have hc:=Cv hb (k*3)
 have b0:=hc.at 0
 have b1:=hc.at 1
 have b2:=hc.at 2
 have hf:=Bl (gM all (k*3))
 unfold YO
 rw[U4 all hb k h,IntKind.wrap_u8]
 generalize iF (gM all (k*3)) 3=n at*
 generalize gM all (k*3)=c at*
 match j,hj with
 |0,_=>show n/65536 % 256=_;omega
 |1,_=>show n/256 % 256=_;omega
 |2,_=>show n/1 % 256=_;omega
theorem YR(all:List Int)(hb:eO all)(k:Nat)(h:3*k<all.length):gB (dB all) k (manyN (dB all) k-1)=gM all (k*3):=by
 obtain⟨hl,hm,_⟩:=rC all k h
 apply List.ext_getElem
 ·rw[gB_len,hm];omega
 ·intro j h1 h2
  have e:(gB (dB all) k (manyN (dB all) k-1))[j]=YO (dB all) k j:=by simp[gB]
  rw[e,R3 all hb k j h (by omega),getD_at h2]
theorem Fs(all:List Int)(hb:eO all):∀k,k<=(all.length+2)/3->Qu (dB all) k=all.take (3*k)
 |0,_=>by rw[Nat.mul_zero,List.take_zero];rfl
 |k+1,hk=>by
  show Qu (dB all) k++gB (dB all) k (manyN (dB all) k-1)=_
  rw[YR all hb k (by omega),Fs all hb k (by omega)]
  unfold gM
  rw[show 3*(k+1)=3*k+3 by omega,List.take_add,Nat.mul_comm k 3]
theorem Fu(all:List Int)(hb:eO all):U0 (dB all)=some all:=by
 have hs:=mF all
 have hq:((dB all).size+3)/4=(all.length+2)/3:=by rw[hs];split<;>omega
 have hback:Hf (dB all)=all:=by
  unfold Hf
  rw[hq,Fs all hb _ (Nat.le_refl _),List.take_of_length_le (by omega)]
 have hok:Qv (dB all)=true:=U1 λj hj=>by
  have hk:3*(j/4)<all.length:=by rw[hs] at hj;split at hj<;>omega
  have hjj:j=4*(j/4)+j % 4:=by omega
  have hm:=((rC all (j/4) hk).2.2 (j % 4) (by omega)).1 (by rw[<-hjj];exact hj)
  have:=CF all (j/4) (j % 4) hk hm
  rw[<-hjj] at this
  rw[this]
  have hd:=yj (iF (gM all (j/4*3)) 3) (j % 4)
  rw[show ni (SA (iF (gM all (j/4*3)) 3) (j % 4))=LV (iF (gM all (j/4*3)) 3) (j % 4) from Fq hd.1 hd.2]
  exact hd.1
 rw[YQ hok,hback,beq_self_eq_true,if_pos U]
theorem U5(a b:ByteArray):(a++b).extract a.size (a++b).size=b:=by
 apply ByteArray.ext
 apply Array.toList_inj.1
 simp[ByteArray.data_extract,ByteArray.data_append]
 have h1:List.drop a.size a.data.toList=[]:=List.drop_eq_nil_of_le (Nat.le_of_eq U)
 have h2:List.take b.size b.data.toList=b.data.toList:=List.take_of_length_le (Nat.le_of_eq U)
 rw[h1,h2,List.take_nil,List.nil_append]
theorem O.at{x:V}(h:O x)(i:Nat)(h1:i<x.ks.length)(h2:i<x.vs.length):aI x x.ks[i]=(x.vs[i],true):=by
 have:(x.ks[i],x.vs[i])∈x.ks.zip x.vs:=by
  have:(x.ks.zip x.vs)[i]'(by rw[List.length_zip];omega)=(x.ks[i],x.vs[i]):=List.getElem_zip
  rw[<-this];exact List.getElem_mem _
 exact h.mem.2 this
def wW(s:ByteArray):Nat->Int
 |0=>0
 |i+1=>(wW s i*64+ni (eG s (i:Int)))% 65536
def eU(i:Nat):Nat:=(6*i)% 8
def CG(s:ByteArray):Nat->List Int
 |0=>[]
 |i+1=>if i % 4=0 then CG s i else CG s i++[IntKind.u8.wrap (wW s (i+1)/2^eU (i+1))]
def Fv(s:ByteArray):Option (List Int):=if Qv s=true then(if eU s.size=6\/wW s s.size % 2^eU s.size≠0 then none else some (CG s s.size)) else none
def rD(s:ByteArray):Bool:=(decide (s.size≠0)&&eG s ((0:Nat):Int)==36)&&(match Fv (s.extract 1 s.size) with|some l=>decide (l.length=32)|none=>false)
theorem Kb(s:ByteArray):∀i,(CG s i).length=i-(i+3)/4
 |0=>rfl
 |i+1=>by
  have ih:=Kb s i
  unfold CG
  split
  ·omega
  ·rw[List.length_append,ih];simp;omega
theorem pnV_bd(s:ByteArray):∀i,0<=wW s i/\wW s i<65536
 |0=>⟨Int.le_refl 0,(by decide:(0:Int)<65536)⟩
 |i+1=>by unfold wW;omega
theorem U6(s:ByteArray)(j:Nat)(h:j+1<s.size):eG (s.extract 1 s.size) (j:Int)=eG s ((j+1:Nat):Int):=by
 rw[iH _ _ (by simp;omega),iH _ _ h]
 simp[ByteArray.data_extract,Nat.add_comm]
theorem U7{t:ByteArray}(h:t.size=44):rD t=(eG t ((0:Nat):Int)==36&&(Qv (t.extract 1 t.size)&&decide (ni (eG t ((43:Nat):Int))% 4=0))):=by
 have hx:(t.extract 1 t.size).size=43:=by simp[h]
 have hp:wW (t.extract 1 t.size) 43 % 4=ni (eG t ((43:Nat):Int))% 4:=by
  show((wW (t.extract 1 t.size) 42*64+ni (eG (t.extract 1 t.size) ((42:Nat):Int)))% 65536)% 4=_
  rw[U6 t 42 (by omega)]
  show((_*64+ni (eG t ((43:Nat):Int)))% 65536)% 4=_
  omega
 have hl:=Kb (t.extract 1 t.size) 43
 unfold rD Fv
 rw[hx]
 generalize CG (t.extract 1 t.size) 43=P at*
 generalize wW (t.extract 1 t.size) 43=q at*
 rw[show eU 43=2 from rfl,decide_eq_true (by omega:t.size≠0),Bool.true_and]
 congr 1
 cases hk:Qv (t.extract 1 t.size) with
 |false=>rw[if_neg (by decide)];rfl
 |true=>
  rw[if_pos U,Bool.true_and]
  have h4:((2:Int)^2)=4:=by decide
  rw[h4,hp]
  by_cases hd:ni (eG t ((43:Nat):Int))% 4=0
  ·rw[if_neg (by rw[not_or];exact⟨by decide,by rw[Decidable.not_not];exact hd⟩),decide_eq_true hd]
   show decide (P.length=32)=true
   rw[hl];rfl
  ·rw[if_pos (.inr hd),decide_eq_false hd]
def iT(a b:Int):List Int:=a::(List.replicate 30 0++[b])
def jP(a b:Int):ByteArray:=kF++dB (iT a b)
theorem vE{a b:Int}(ha:0<=a/\a<256)(hb:0<=b/\b<256):eO (iT a b):=by
 intro c hc
 unfold iT at hc
 rcases List.mem_cons.1 hc with h|h
 ·rw[h];exact ha
 ·rcases List.mem_append.1 h with h|h
  ·rw[(List.mem_replicate.1 h).2];decide
  ·rw[List.mem_singleton.1 h];exact hb
theorem rE(a b:Int):(iT a b).length=32:=by unfold iT;simp
theorem wF(a b:Int):(jP a b).size=44:=by
 unfold jP
 rw[aZ,mF,rE];rfl
theorem Bn(a b:Int):(jP a b).extract 1 (jP a b).size=dB (iT a b):=U5 kF _
theorem U8{a b a' b':Int}(ha:0<=a/\a<256)(hb:0<=b/\b<256)(ha':0<=a'/\a'<256)(hb':0<=b'/\b'<256)(h:jP a b=jP a' b'):a=a'/\b=b':=by
 have h1:=Bn a b
 rw[h,Bn] at h1
 have h2:=Fu _ (vE ha hb)
 rw[<-h1,Fu _ (vE ha' hb')] at h2
 have h3:iT a' b'=iT a b:=Option.some.inj h2
 unfold iT at h3
 have h4:=List.cons.inj h3
 exact⟨h4.1.symm,by have:=List.append_cancel_left h4.2;simpa using this.symm⟩
theorem YS(all:List Int)(hb:eO all):Qv (dB all)=true:=by
 cases h:Qv (dB all) with
 |true=>rfl
 |false=>have:=Fu all hb;rw[YP h] at this;cases this
theorem Hg(a b:Int):eG (jP a b) ((0:Nat):Int)=36:=(U2 kF _ 0 (by decide)).trans (by kernel_rfl)
theorem R4{a b:Int}(ha:0<=a/\a<256)(hb:0<=b/\b<256):ni (eG (jP a b) ((43:Nat):Int))% 4=0:=by
 have hl:=rE a b
 have h1:eG (jP a b) ((43:Nat):Int)=eG (dB (iT a b)) ((42:Nat):Int):=Qw kF _ 42 (by rw[mF,hl];decide)
 have hc:(gM (iT a b) (10*3)).length=2:=by rw[pz,hl];decide
 have h2:=CF (iT a b) 10 2 (by omega) (by omega)
 rw[h1,show(42:Nat)=4*10+2 from rfl,h2]
 have hd:=yj (iF (gM (iT a b) (10*3)) 3) 2
 rw[show ni (SA (iF (gM (iT a b) (10*3)) 3) 2)=LV (iF (gM (iT a b) (10*3)) 3) 2 from Fq hd.1 hd.2]
 have hf:=Bl (gM (iT a b) (10*3))
 rw[u6 _ 2 (by omega)] at hf
 show(iF (gM (iT a b) (10*3)) 3/64 % 64)% 4=0
 rw[hf]
 omega
theorem Ps{a b:Int}(ha:0<=a/\a<256)(hb:0<=b/\b<256):rD (jP a b)=true:=by
 rw[U7 (wF a b),Hg,Bn,YS _ (vE ha hb),R4 ha hb]
 rfl
def gH(l:List ByteArray):Bool:=decide (l.length<=20)&&(List.range l.length).all λi=>rD (l.getD i ⟨#[]⟩)&&!hasB (l.take i) (l.getD i ⟨#[]⟩)
theorem R5{l:List ByteArray}(h1:l.length<=20)(h2:∀s∈l,rD s=true)(h3:l.Nodup):gH l=true:=by
 unfold gH
 rw[decide_eq_true h1,Bool.true_and,List.all_eq_true]
 intro i hi
 have hi:=List.mem_range.1 hi
 rw[getD_at hi,h2 _ (List.getElem_mem hi),Bool.true_and]
 cases hh:hasB (l.take i) l[i] with
 |false=>rfl
 |true=>
  have hm:=lJ.1 hh
  obtain⟨j,hj,e⟩:=List.getElem_of_mem hm
  rw[List.length_take] at hj
  rw[List.getElem_take] at e
  exact absurd e (List.pairwise_iff_getElem.1 h3 j i (by omega) hi (by omega))
theorem Kc{α:Type}[DecidableEq α](f:α->Nat):∀(l m:List α),l.Nodup->(∀x∈l,x∈m)->(l.map f).sum<=(m.map f).sum
 |[],m,_,_=>Nat.zero_le _
 |x::r,m,hn,hs=>by
  have hx:x∈m:=hs x (List.mem_cons_self ..)
  obtain⟨hxr,hnr⟩:=List.nodup_cons.1 hn
  have ih:=Kc f r (m.erase x) hnr λy hy=>(List.mem_erase_of_ne (λe=>hxr (by rw[<-e];exact hy))).2 (hs y (List.mem_cons_of_mem _ hy))
  have hp:(m.map f).sum=f x+((m.erase x).map f).sum:=by
   have:=(List.perm_cons_erase hx).map f
   rw[List.Perm.sum_nat this,List.map_cons,List.sum_cons]
  rw[List.map_cons,List.sum_cons,hp]
  omega
theorem ZG(cap:ByteArray->Nat):∀(ks:List ByteArray) (vs:List V),ks.length=vs.length->(∀(i:Nat) (h1:i<ks.length) (h2:i<vs.length),rq vs[i]<=cap ks[i])->tH ks+dW vs<=(ks.map λs=>6*s.size+5+cap s).sum
 |[],[],_,_=>Nat.zero_le _
 |[],_::_,h,_=>by cases h
 |_::_,[],h,_=>by cases h
 |s::r,v::q,h,hc=>by
  have ih:=ZG cap r q (by simpa using h) λi h1 h2=>hc (i+1) (by simpa using h1) (by simpa using h2)
  have h0:rq v<=cap s:=hc 0 (by simp) (by simp)
  rw[tH,dW,List.map_cons,List.sum_cons]
  omega
theorem obj_wt{x:V}(ho:O x)(cap:ByteArray->Nat)(L:List ByteArray)(h:∀key v,aI x key=(v,true)->rq v<=cap key/\key∈L):rq x<=30+(L.map λs=>6*s.size+5+cap s).sum:=by
 have hl:=ho.len
 have h1:=ZG cap x.ks x.vs hl λi h1 h2=>(h _ _ (ho.at i h1 h2)).1
 have hnd:x.ks.Nodup:=List.pairwise_iff_getElem.2 λi j hi hj hij e=>by have:=JU ho.GR hi hj e;omega
 have h2:=Kc (λs=>6*s.size+5+cap s) x.ks L hnd λs hs=>by
  have:=ho.has.2 hs
  exact(h s (aI x s).1 (by rw[<-this])).2
 rw[E9,ho.t]
 show 30+6*0+tH x.ks+dW x.vs<=_
 omega
def U9:ByteArray:=⟨#[117,115,101,114,115]⟩
def Qx:ByteArray:=⟨#[101,118,101,110,116,115]⟩
def Pt(key:ByteArray):Nat:=if key=U9\/key=Qx then 10600 else 200
theorem Qy(key:ByteArray):200<=Pt key:=by unfold Pt;split<;>omega
theorem R6{c:List Int}(hc:zh c)(k:Int)(j:Nat):rq (pK c k j)<=Pt (mY c j)/\dh (pK c k j)<=30:=by
 have hs:∀t:ByteArray,t.size<=20->rq (cK t)<=Pt (mY c j)/\dh (cK t)<=30:=λt h=>by
  have e:rq (cK t)=30+6*t.size+0+0:=jB ..
  have:=Qy (mY c j)
  have d:dh (cK t)<=1:=ig _ _ _
  exact⟨by omega,by omega⟩
 unfold pK
 repeat' split
 ·exact hs _ (mM Ms _)
 ·exact hs _ (mM Qn _)
 ·rename_i h
  have hk:mY c j=U9\/mY c j=Qx:=by
   unfold mY
   rcases h with h|h<;>rw[h]
   ·exact .inl U
   ·exact .inr U
  have h1:=(Mr hc _ (G8 (k+(j:Int))).1).wt
  have h2:=(EM c _ (G8 (k+(j:Int))).1).2.2
  unfold Pt
  rw[if_pos hk]
  exact⟨h1,h2⟩
 ·have e:∀n:Int,rq (mU n)=30+6*0+0+0:=λn=>jB ..
  have:=Qy (mY c j)
  have d:∀n,dh (mU n)<=1:=λn=>ig _ _ _
  have d1:=d ((c.getD j 0).tmod 120-10)
  exact⟨by rw[e];omega,by omega⟩
theorem Hl{c:List Int}(hc:zh c)(k:Int):∀j key v,aI (vz c k j) key=(v,true)->(rq v<=Pt key/\dh v<=30)/\key∈BN
 |0,key,v,h=>by cases h
 |j+1,key,v,h=>by
  have ho:=(vD c hc k j).1
  by_cases hk:key=mY c j
  ·subst hk
   have:=(ho.jO (mY c j) (pK c k j)).symm.trans h
   obtain rfl:=(Prod.mk.inj this).1
   refine⟨R6 hc k j,?_⟩
   have hb:=mX hc j
   have h0:=Int.tmod_nonneg 10 hb.1
   have h1:=Int.tmod_lt_of_pos (c.getD j 0) (by decide:(0:Int)<10)
   exact eY (by show _<10;omega)
  ·exact Hl hc k j key v ((ho.jy hk _).symm.trans h)
theorem Pv{c:List Int}(hc:zh c)(k:Int):rq (G7 c k)<=25000/\dh (G7 c k)<=31/\O (G7 c k):=by
 have ho:=(vD c hc k (min c.length 6)).1
 have h:=Hl hc k (min c.length 6)
 refine⟨Nat.le_trans (obj_wt ho Pt BN λkey v hv=>⟨(h key v hv).1.1,(h key v hv).2⟩) (by decide),wV.deep (d:=30) (by decide) λv hv=>?_,ho⟩
 obtain⟨i,hi,rfl⟩:=List.getElem_of_mem hv
 have hl:=ho.len
 exact(h _ _ (ho.at i (by rw[hl];exact hi) hi)).1.2
def nW:List ByteArray:=[⟨#[64,97,58,115]⟩,⟨#[64,98,58,115]⟩,⟨#[64,99,58,116]⟩]
def MO:ByteArray:=⟨#[33,114,58,115]⟩
def Ke:List ByteArray:=[⟨#[]⟩,⟨#[64,97,58,115]⟩,⟨#[107]⟩]
def ZH(n k:Int)(m:Nat):List ByteArray:=(List.range m).map λi:Nat=>jP (i:Int) k
def ZI(n k:Int)(m:Nat):List ByteArray:=(List.range m).map λi:Nat=>jP (100+(i:Int)) k
def dS(c:List Int)(k:Int):EV where
 id:=⟨#[]⟩
 ty:=G6 k
 key:=if (c.getD 0 0).tmod 5<3 then Ke.getD ((c.getD 0 0).tmod 5).toNat ⟨#[]⟩ else⟨#[]⟩
 is:=decide ((c.getD 0 0).tmod 5<3)
 sender:=nW.getD ((c.getD 0 0).tmod 3).toNat ⟨#[]⟩
 room:=MO
 prev:=ZH (c.getD 0 0) k ((c.getD 0 0).tmod 4).toNat
 dH:=ZI (c.getD 0 0) k (((c.getD 0 0).tdiv 4).tmod 4).toNat
 depth:=c.getD 0 0
 time:=k*3
 body:=G7 c k
theorem MP(f:Nat->Int)(k:Int)(hk:0<=k/\k<256)(m:Nat)(hm:m<=20)(hf:∀i,i<m->0<=f i/\f i<256)(hi:∀i j,i<m->j<m->f i=f j->i=j):gH ((List.range m).map λi=>jP (f i) k)=true/\((List.range m).map λi=>jP (f i) k).length<=24/\∀s∈(List.range m).map λi=>jP (f i) k,s.size<=44:=by
 refine⟨R5 (by simpa using hm) (λs hs=>?_) ?_,by simp;omega,λs hs=>?_⟩
 ·obtain⟨i,h,rfl⟩:=List.mem_map.1 hs
  exact Ps (hf i (List.mem_range.1 h)) hk
 ·refine List.pairwise_iff_getElem.2 λi j h1 h2 hij e=>?_
  simp only[List.getElem_map,List.getElem_range] at e
  rw[List.length_map,List.length_range] at h1 h2
  have:=hi i j h1 h2 (U8 (hf i h1) hk (hf j h2) hk e).1
  omega
 ·obtain⟨i,h,rfl⟩:=List.mem_map.1 hs
  rw[wF];decide
theorem Pw:∀s∈nW,s.size<=100:=by decide
theorem Hm:∀s∈Ke,s.size<=80:=by decide
theorem Kg{c:List Int}(hc:zh c)(k:Int)(hk0:0<=k)(hk1:k<256):Sm (dS c k)/\gH (dS c k).prev=true/\gH (dS c k).dH=true/\(dS c k).body.k=5:=by
 obtain⟨b1,b2,b3⟩:=Pv hc k
 obtain⟨g1,g2⟩:=yx hc k (min c.length 6)
 have hb:=mX hc 0
 have m0:=Int.tmod_lt_of_pos (c.getD 0 0) (by decide:(0:Int)<4)
 have m1:=Int.tmod_lt_of_pos ((c.getD 0 0).tdiv 4) (by decide:(0:Int)<4)
 have p1:=MP (λi:Nat=>(i:Int)) k ⟨hk0,hk1⟩ ((c.getD 0 0).tmod 4).toNat (by omega) (λi h=>by omega) (λi j _ _ h=>by omega)
 have p2:=MP (λi:Nat=>100+(i:Int)) k ⟨hk0,hk1⟩ (((c.getD 0 0).tdiv 4).tmod 4).toNat (by omega) (λi h=>by omega) (λi j _ _ h=>by omega)
 have ht:(G6 k).size<=20:=mM Mt _
 have hs:(nW.getD ((c.getD 0 0).tmod 3).toNat ⟨#[]⟩).size<=100:=mM Pw _
 have hkk:(dS c k).key.size<=80:=by
  show(if _ then _ else _:ByteArray).size<=80
  split
  ·exact mM Hm _
  ·decide
 exact⟨⟨p1.2,p2.2,⟨by show(G6 k).size<=100;omega,by omega,hs,by show MO.size<=100;decide⟩,⟨⟨by show _<=c.getD 0 0;omega,by show c.getD 0 0<=_;omega⟩,by show _<=k*3;omega,by show k*3<=_;omega⟩,⟨g2.num,b1⟩,b2,g1.fits (by omega),b3,by have:=g1.le;show(vz c k (min c.length 6)).ks.length<=_;omega⟩,p1.1,p2.1,b3.k⟩
def wX:List ByteArray:=nW++[⟨#[64,97,58,98]⟩]
def BP:List ByteArray:=[MO,⟨#[33,114,58,98]⟩]
def nk(s:ByteArray):Bool:=hasB wX s
def nu(s:ByteArray):Bool:=hasB BP s
abbrev MQ(e:EV):Bool:=MF nk nu gH e
abbrev qy(v:V):EV×Int:=Ff nk nu gH v
def Fw(a b:EV):Bool:=a.id.toList==b.id.toList&&a.ty.toList==b.ty.toList&&a.key.toList==b.key.toList&&a.is==b.is&&a.sender.toList==b.sender.toList&&a.room.toList==b.room.toList&&a.depth==b.depth&&a.time==b.time&&kX r9 a.prev b.prev&&kX r9 a.dH b.dH&&gp a.body b.body
theorem R7(l:List ByteArray):kX r9 l l=true:=l9 U λi h _=>by unfold r9;exact beq_self_eq_true _
theorem yz(e:EV)(h:Fits e.body):Fw e e=true:=by
 unfold Fw
 simp only[beq_self_eq_true,Bool.true_and,R7,Bf _ h]
structure RQ(v:V):Prop extends RD v where
 user:(aI v bZ).1.t=⟨#[]⟩\/(aI v bZ).1.t∈wX
 room:(aI v gY).1.t=⟨#[]⟩\/(aI v gY).1.t∈BP
 prev:(∀s∈fA (aI v gV).1,s.size<=1000/\(s.data.toList.all λb=>b.toNat<128)=true)/\(aI v gV).1.vs.length<=1000
 dH:(∀s∈fA (aI v gK).1,s.size<=1000/\(s.data.toList.all λb=>b.toNat<128)=true)/\(aI v gK).1.vs.length<=1000
def pO(s:ByteArray):Bool:=s.data.toList.all λb=>b.toNat<128
theorem wG(s:ByteArray):pO s=true↔∀j,j<s.size->eG s ((j:Nat):Int)<128:=by
 unfold pO
 rw[List.all_eq_true]
 constructor
 ·intro h j hj
  rw[iH s j hj]
  have:=h _ (List.getElem_mem (by simpa using hj:j<s.data.toList.length))
  have:=of_decide_eq_true this
  omega
 ·intro h b hb
  obtain⟨j,hj,rfl⟩:=List.getElem_of_mem hb
  have:=h j (by simpa using hj)
  rw[iH s j (by simpa using hj)] at this
  exact decide_eq_true (by omega)
theorem MR:(List.range 64).all (λd:Nat=>decide (eG lH (d:Int)<128))=true:=by kernel_rfl
theorem R8(n:Int)(j:Nat):SA n j<128:=by
 have hd:=yj n j
 have:=of_decide_eq_true (List.all_eq_true.1 MR (LV n j).toNat (List.mem_range.2 (by omega)))
 rwa [Int.toNat_of_nonneg hd.1] at this
theorem MS(all:List Int)(hb:eO all)(j:Nat)(hj:j<(dB all).size):eG (dB all) ((j:Nat):Int)<128:=by
 have hs:=mF all
 have hk:3*(j/4)<all.length:=by rw[hs] at hj;split at hj<;>omega
 have hjj:j=4*(j/4)+j % 4:=by omega
 have hm:=((rC all (j/4) hk).2.2 (j % 4) (by omega)).1 (by rw[<-hjj];exact hj)
 have:=CF all (j/4) (j % 4) hk hm
 rw[<-hjj] at this
 rw[this]
 exact R8 _ _
theorem Fx{a b:Int}(ha:0<=a/\a<256)(hb:0<=b/\b<256):pO (jP a b)=true:=by
 rw[wG]
 intro j hj
 rw[wF] at hj
 have h43:(dB (iT a b)).size=43:=by rw[mF,rE];rfl
 cases j with
 |zero=>rw[Hg];decide
 |succ j=>
  have h1:eG (jP a b) ((j+1:Nat):Int)=eG (dB (iT a b)) ((j:Nat):Int):=by
   have:=Qw kF (dB (iT a b)) j (by omega)
   rw[show kF.size+j=j+1 by show 1+j=_;omega] at this
   exact this
  rw[h1]
  exact MS _ (vE ha hb) j (by omega)
structure YT(e:EV):Prop extends Sm e where
 user:e.sender∈wX
 rm:e.room∈BP
 pa:∀s∈e.prev,pO s=true
 aa:∀s∈e.dH,pO s=true
 b5:e.body.k=5
theorem YU{v:V}{e:EV}(hv:RD v)(h:F4 v e)(hs:YT e):RQ v where
 toRD:=hv
 user:=.inr (by rw[h.sender];exact hs.user)
 room:=.inr (by rw[h.room];exact hs.rm)
 prev:=by
  rw[h.prev,mE]
  exact⟨λs hm=>⟨by have:=hs.prev.2 s hm;omega,hs.pa s hm⟩,by show(e.prev.map cK).length<=_;rw[List.length_map];have:=hs.prev.1;omega⟩
 dH:=by
  rw[h.dH,mE]
  exact⟨λs hm=>⟨by have:=hs.dH.2 s hm;omega,hs.aa s hm⟩,by show(e.dH.map cK).length<=_;rw[List.length_map];have:=hs.dH.1;omega⟩
theorem Px(i:Nat)(h:i<3):nW.getD i ⟨#[]⟩∈wX:=List.mem_append_left _ (eY h)
theorem Fy{c:List Int}(hc:zh c)(k:Int)(hk0:0<=k)(hk1:k<256):YT (dS c k)/\MQ (dS c k)=true:=by
 obtain⟨h1,h2,h3,h4⟩:=Kg hc k hk0 hk1
 have hb:=mX hc 0
 have m0:=Int.tmod_nonneg 3 hb.1
 have m1:=Int.tmod_lt_of_pos (c.getD 0 0) (by decide:(0:Int)<3)
 have m2:=Int.tmod_lt_of_pos (c.getD 0 0) (by decide:(0:Int)<4)
 have m3:=Int.tmod_lt_of_pos ((c.getD 0 0).tdiv 4) (by decide:(0:Int)<4)
 have hu:(dS c k).sender∈wX:=Px _ (by omega)
 refine⟨⟨h1,hu,List.mem_cons_self ..,λs hs=>?_,λs hs=>?_,h4⟩,?_⟩
 ·obtain⟨i,hi,rfl⟩:=List.mem_map.1 hs
  have:=List.mem_range.1 hi
  exact Fx (by omega) ⟨hk0,hk1⟩
 ·obtain⟨i,hi,rfl⟩:=List.mem_map.1 hs
  have:=List.mem_range.1 hi
  exact Fx (by omega) ⟨hk0,hk1⟩
 ·have ht:(dS c k).ty.size<=80:=Nat.le_trans (mM Mt _) (by decide)
  have ht0:(dS c k).ty.size≠0:=by
   have m4:=Int.tmod_nonneg 7 hk0
   have m5:=Int.tmod_lt_of_pos k (by decide:(0:Int)<7)
   have hz:∀s∈G5,s.size≠0:=by decide
   exact hz _ (eY (by show _<7;omega))
  have hk:(dS c k).key.size<=80:=by
   show(if _ then _ else _:ByteArray).size<=80
   split
   ·exact mM Hm _
   ·decide
  have hup:nk (dS c k).sender=true:=lJ.2 hu
  have hrp:nu (dS c k).room=true:=by kernel_rfl
  unfold MQ MF Bi
  rw[decide_eq_true ht0,decide_eq_true ht,hup,hrp,h2,h3,decide_eq_true (show 0<=(dS c k).depth from hb.1),decide_eq_true (show 0<=(dS c k).time by show 0<=k*3;omega),decide_eq_true hk]
  simp
def ZJ:List (ByteArray×Int):=[(dK,3),(bZ,3),(gY,3),(gV,4),(gK,4),(eu,2),(iR,2),(aQ,5),(bq,5)]
theorem R9{v:V}{key:ByteArray}{k:Int}(hk:(key,k)∈ZJ)(h:qG v key k=false):qy v=(zeroE,15):=by
 unfold qy Ff
 rw[ok_no nk nu gH hk h,if_pos U]
theorem Sa{e:EV}(hs:YT e)(hf:MQ e=true):qy (dx e)=({J9 e with id:=zW (dx e)},0):=RZ nk nu gH (Bj e) hs.make hs.b5 hf (MG (pM e))
end Go.Proofs.YtonpfomjoiaacaaGreatDoor
end
