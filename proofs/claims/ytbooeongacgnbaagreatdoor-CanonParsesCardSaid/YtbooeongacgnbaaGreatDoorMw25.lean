/- A part of the proof. -/
import Derived.Test.YtbooeongacgnbaaGreatDoorMw20
import Derived.Test.YtbooeongacgnbaaGreatDoorMw24
import Derived.Test.YtbooeongacgnbaaGreatDoorMw19
set_option maxRecDepth 100000
set_option maxHeartbeats 4000000
set_option linter.unusedSectionVars false
set_option linter.unusedVariables false
set_option linter.unusedSimpArgs false
section
namespace Go.Proofs.YtbooeongacgnbaaGreatDoor
open Go Go.gW Go.RowKit
abbrev bl(s:ByteArray):List UInt8:=s.data.toList
theorem iq(s:ByteArray):(bl s).length=s.size:=rfl
theorem rJ(a b:ByteArray):bl (a++b)=bl a++bl b:=uU a b
theorem lH{a b:ByteArray}(h:bl a=bl b):a=b:=rF h
theorem bZ(u:ByteArray)(a b:Nat):bl (u.extract a b)=((bl u).drop a).take (b-a):=qx u a b
theorem jb(s:ByteArray)(k:Nat)(h:k<s.size):aO s (k:Int)=(((bl s)[k]'h).toNat:Int):=kS s k h
def Here(s:ByteArray)(p:Nat)(l:List UInt8):Prop:=∃r,(bl s).drop p=l++r
theorem Here.sp{s:ByteArray}{p:Nat}{a b:List UInt8}(h:Here s p (a++b)):Here s p a/\Here s (p+a.length) b:=by
 obtain⟨r,h⟩:=h
 refine⟨⟨b++r,by rw[h,List.append_assoc]⟩,r,?_⟩
 rw[<-List.drop_drop,h,List.append_assoc,List.drop_left]
theorem Here.hd{s:ByteArray}{p:Nat}{x:UInt8}{l:List UInt8}(h:Here s p (x::l)):p<s.size/\aO s (p:Int)=(x.toNat:Int)/\Here s (p+1) l:=by
 have h3:=(show Here s p ([x]++l) from h).sp.2
 obtain⟨r,h⟩:=h
 have hlt:p<(bl s).length:=by
  rcases Nat.lt_or_ge p (bl s).length with h1|h1
  ·exact h1
  ·rw[List.drop_of_length_le h1] at h;simp at h
 refine⟨hlt,?_,h3⟩
 rw[List.drop_eq_getElem_cons hlt] at h
 injection h with h1 h2
 rw[jb s p hlt,h1]
theorem Here.at_{s:ByteArray}:∀{l:List UInt8} {p:Nat},Here s p l->∀(i:Nat) (h:i<l.length),p+i<s.size/\aO s ((p+i:Nat):Int)=((l[i]).toNat:Int)
 |x::l,p,h,0,_=>⟨h.hd.1,h.hd.2.1⟩
 |x::l,p,h,i+1,hi=>by
  have:=Here.at_ h.hd.2.2 i (by simpa using hi)
  rw[show p+1+i=p+(i+1) from by omega] at this
  exact this
theorem Here.le{s:ByteArray}{l:List UInt8}{p:Nat}(h:Here s p l)(h0:l≠[]):p+l.length<=s.size:=by
 cases l with
 |nil=>exact absurd U h0
 |cons x l=>have:=(h.at_ l.length (by simp)).1;simp;omega
theorem Here.le'{s:ByteArray}{l:List UInt8}{p:Nat}(h:Here s p l)(h0:p<=s.size):p+l.length<=s.size:=by
 cases l with
 |nil=>exact h0
 |cons x l=>exact h.le (by simp)
theorem Here.ext{s:ByteArray}{l:List UInt8}{p:Nat}(h:Here s p l):bl (s.extract p (p+l.length))=l:=by
 obtain⟨r,h⟩:=h
 rw[bZ,h,Nat.add_sub_cancel_left,List.take_left]
theorem Here.LQ{s:ByteArray}{l:List UInt8}{p:Nat}(h:Here s p l):Here (s.extract p s.size) 0 l:=by
 obtain⟨r,h⟩:=h
 refine⟨r,?_⟩
 rw[List.drop_zero,bZ,List.take_of_length_le,h]
 rw[List.length_drop,iq]
 exact Nat.le_refl _
theorem ng{s:ByteArray}{p:Nat}{x:UInt8}{l:List UInt8}(h:Here s p (x::l))(c:Int):bT s p c=((x.toNat:Int)==c):=by
 obtain⟨h1,h2,_⟩:=h.hd
 unfold bT
 rw[h2,decide_eq_true (by omega),Bool.true_and]
def gd(l:List UInt8)(i:Nat):Nat:=(l.getD i 0).toNat
def WG(c:List UInt8):Prop:=c≠[]/\gK c.length (gd c 0) (gd c 1) (gd c 2) (gd c 3)=c.length
theorem RI(m B0 B1 B2 B3:Nat):gK m B0 B1 B2 B3<=4:=by
 unfold gK
 (repeat' split)<;>decide
theorem WG.kinds{c:List UInt8}(h:WG c):(∃x,c=[x]/\x.toNat<128)\/(2<=c.length/\c.length<=4/\∀x∈c,128<=x.toNat):=by
 obtain⟨h0,h⟩:=h
 have hle:=RI c.length (gd c 0) (gd c 1) (gd c 2) (gd c 3)
 match c,h0,h,hle with
 |[x],_,h,_=>
  left
  refine⟨x,rfl,?_⟩
  simp only[gd,List.getD_cons_zero,List.length_singleton] at h
  unfold gK at h
  split at h
  ·assumption
  ·(repeat' split at h)<;>omega
 |[x,y],_,h,_=>
  right
  simp only[gd,List.getD_cons_zero,List.getD_cons_succ,List.length_cons,List.length_nil] at h
  refine⟨by simp,by simp,?_⟩
  unfold gK at h
  (repeat' split at h)<;>first|omega|(intro z hz;simp at hz;rcases hz with rfl|rfl<;>omega)
 |[x,y,z],_,h,_=>
  right
  simp only[gd,List.getD_cons_zero,List.getD_cons_succ,List.length_cons,List.length_nil] at h
  refine⟨by simp,by simp,?_⟩
  unfold gK at h
  (repeat' split at h)<;>first|omega|(intro w hw;simp at hw;rcases hw with rfl|rfl|rfl<;>omega)
 |[x,y,z,t],_,h,_=>
  right
  simp only[gd,List.getD_cons_zero,List.getD_cons_succ,List.length_cons,List.length_nil] at h
  refine⟨by simp,by simp,?_⟩
  unfold gK at h
  (repeat' split at h)<;>first|omega|(intro w hw;simp at hw;rcases hw with rfl|rfl|rfl|rfl<;>omega)
 |_::_::_::_::_::r,_,h,hle=>
  rw[h,List.length_cons,List.length_cons,List.length_cons,List.length_cons,List.length_cons] at hle
  omega
theorem C9{m B0 B1 B2 B3 C1 C2 C3 k m':Nat}(h:gK m B0 B1 B2 B3=k)(h0:k≠0)(hm:k<=m')(h1:1<k->B1=C1)(h2:2<k->B2=C2)(h3:3<k->B3=C3):gK m' B0 C1 C2 C3=k:=by
 unfold gK at h⊢
 split at h
 ·rw[if_pos (by assumption)];exact h
 ·rename_i g0
  rw[if_neg g0]
  split at h
  ·subst h
   have:=h1 (by decide)
   subst this
   rename_i g1
   rw[if_pos ⟨g1.1,g1.2.1,by omega,g1.2.2.2⟩]
  ·rename_i g1
   split at h
   ·subst h
    have e1:=h1 (by decide)
    have e2:=h2 (by decide)
    subst e1 e2
    rename_i g2
    rw[if_neg (by omega),if_pos ⟨g2.1,g2.2.1,by omega,g2.2.2.2⟩]
   ·split at h
    ·subst h
     have e1:=h1 (by decide)
     have e2:=h2 (by decide)
     have e3:=h3 (by decide)
     subst e1 e2 e3
     rename_i g2 g3
     rw[if_neg (by omega),if_neg (by omega),if_pos ⟨g3.1,g3.2.1,by omega,g3.2.2.2⟩]
    ·exact absurd h.symm h0
theorem XD(s:ByteArray)(i:Nat)(h:i<s.size):bt s i=((bl s)[i]'h).toNat:=by
 rw[eX s i h]
 rfl
theorem Here.bt{s:ByteArray}{l:List UInt8}{p:Nat}(h:Here s p l)(i:Nat)(hi:i<l.length):bt s (p+i)=gd l i:=by
 obtain⟨h1,h2⟩:=h.at_ i hi
 rw[jb s _ h1] at h2
 rw[XD s _ h1,gd,List.getD_eq_getElem?_getD,List.getElem?_eq_getElem hi,Option.getD_some]
 omega
theorem Ba{s:ByteArray}{p:Nat}{c:List UInt8}(hc:WG c)(h:Here s p c):fA (s.extract p s.size)=(c.length:Int):=by
 have hl:0<c.length:=List.length_pos_iff.2 hc.1
 have hle:=h.le hc.1
 rw[qa s p (by omega)]
 have e0:=h.bt 0 hl
 rw[Nat.add_zero] at e0
 rw[e0,C9 hc.2 (by omega) (m':=s.size-p) (by omega) (λg=>(h.bt 1 g).symm) (λg=>(h.bt 2 g).symm) (λg=>(h.bt 3 g).symm)]
theorem VN{s:ByteArray}{p:Nat}(hp:p<s.size)(h:fA (s.extract p s.size)≠0):∃c r,WG c/\(bl s).drop p=c++r/\fA (s.extract p s.size)=(c.length:Int):=by
 have hb:=vT (s.extract p s.size)
 rw[ext_size] at hb
 obtain⟨k,hk⟩:=Int.eq_ofNat_of_zero_le hb.1
 have hk2:k<=s.size-p:=by omega
 have hk0:k≠0:=by omega
 have hl:((bl s).drop p).length=s.size-p:=by rw[List.length_drop,iq]
 refine⟨((bl s).drop p).take k,((bl s).drop p).drop k,?_,(List.take_append_drop _ _).symm,?_⟩
 ·have hlen:(((bl s).drop p).take k).length=k:=by rw[List.length_take];omega
  have hh:Here s p (((bl s).drop p).take k):=⟨((bl s).drop p).drop k,(List.take_append_drop _ _).symm⟩
  refine⟨λe=>by rw[e] at hlen;simp at hlen;omega,?_⟩
  have h1:=qa s p hp
  rw[hk] at h1
  have e0:=hh.bt 0 (by omega)
  rw[Nat.add_zero] at e0
  have h1n:gK (s.size-p) (bt s p) (bt s (p+1)) (bt s (p+2)) (bt s (p+3))=k:=by omega
  rw[hlen,<-e0]
  exact C9 h1n hk0 (Nat.le_refl _) (λg=>hh.bt 1 (by omega)) (λg=>hh.bt 2 (by omega)) (λg=>hh.bt 3 (by omega))
 ·rw[List.length_take,hk];omega
inductive vz:List UInt8->Prop
 |nil:vz []
 |cons (c r:List UInt8) (h:WG c) (hr:vz r):vz (c++r)
theorem vz.app{a b:List UInt8}(ha:vz a)(hb:vz b):vz (a++b):=by
 induction ha with
 |nil=>exact hb
 |cons c r h _ ih=>rw[List.append_assoc];exact .cons c _ h ih
theorem sH{x:UInt8}(h:x.toNat<128):WG [x]:=⟨by simp,by show gK 1 x.toNat _ _ _=1;unfold gK;rw[if_pos h]⟩
theorem vz.OG:∀{l:List UInt8},(∀x∈l,x.toNat<128)->vz l
 |[],_=> .nil
 |x::l,h=> .cons [x] l (sH (h x (List.mem_cons_self ..))) (vz.OG λy hy=>h y (List.mem_cons_of_mem _ hy))
theorem Ls{s:ByteArray}:∀(f p:Nat) (l:List UInt8),vz l->(bl s).drop p=l->l.length<f->lN s f p= -1
 |0,_,_,_,_,h=>by omega
 |f+1,p,l,hu,hd,hf=>by
  rw[lN]
  have hlen:l.length=s.size-p:=by rw[<-hd,List.length_drop,iq]
  cases hu with
  |nil=>
   rw[if_neg (by simp at hlen;omega)]
  |cons c r hc hr=>
   have hl:0<c.length:=List.length_pos_iff.2 hc.1
   rw[List.length_append] at hlen hf
   rw[if_pos (by omega),Ba hc ⟨r,hd⟩,if_neg (by omega),Int.toNat_natCast]
   exact Ls f _ r hr (by rw[<-List.drop_drop,hd,List.drop_left]) (by omega)
theorem Lt{s:ByteArray}:∀(f p:Nat),p<=s.size->s.size-p<f->lN s f p<0->vz ((bl s).drop p)
 |0,_,_,h,_=>by omega
 |f+1,p,hp,hf,h=>by
  rw[lN] at h
  by_cases hlt:p<s.size
  ·rw[if_pos hlt] at h
   by_cases h0:fA (s.extract p s.size)=0
   ·rw[if_pos h0] at h;omega
   ·rw[if_neg h0] at h
    obtain⟨c,r,hc,hd,he⟩:=VN hlt h0
    rw[he,Int.toNat_natCast] at h
    have hl:0<c.length:=List.length_pos_iff.2 hc.1
    have hle:=(show Here s p c from⟨r,hd⟩).le hc.1
    have:=Lt f (p+c.length) hle (by omega) h
    rw[<-List.drop_drop,hd,List.drop_left] at this
    rw[hd]
    exact .cons c r hc this
  ·rw[List.drop_of_length_le (by rw[iq];omega)]
   exact .nil
theorem zA(s:ByteArray):nu s<0↔vz (bl s):=by
 rw[Jp]
 unfold NY
 constructor
 ·intro h
  have:=Lt (s.size+1) 0 (Nat.zero_le _) (by omega) h
  rwa [List.drop_zero] at this
 ·intro h
  rw[Ls (s.size+1) 0 (bl s) h List.drop_zero (by rw[iq];omega)]
  decide
theorem Bb:bl ⟨#[]⟩=[]:=rfl
theorem Hr(c:Int):bl (aM c)=[UInt8.ofNat c.toNat]:=rfl
theorem zB{c:Int}(h0:0<=c)(h1:c<256):(((UInt8.ofNat c.toNat).toNat:Nat):Int)=c:=by
 rw[UInt8.toNat_ofNat',Nat.mod_eq_of_lt (by omega)];omega
theorem Fx(x:UInt8):UInt8.ofNat ((x.toNat:Nat):Int).toNat=x:=by rw[Int.toNat_natCast];simp
def q1(x:UInt8):List UInt8:=bl (lU ⟨#[]⟩ (x.toNat:Int))
def qL(l:List UInt8):List UInt8:=l.flatMap q1
theorem Fy(x:UInt8)(l:List UInt8):qL (x::l)=q1 x++qL l:=rfl
theorem Fz(a b:List UInt8):qL (a++b)=qL a++qL b:=List.flatMap_append
theorem OH(x:UInt8):qL [x]=q1 x:=by rw[Fy];exact List.append_nil _
theorem VO(x:ByteArray)(c:Int):bl (lU x c)=bl x++bl (lU ⟨#[]⟩ c):=by
 unfold lU
 split
 ·simp only[rJ,Bb,List.nil_append,List.append_assoc]
 ·split
  ·simp only[rJ,Bb,List.nil_append,List.append_assoc]
  ·simp only[rJ,Bb,List.nil_append,List.append_assoc]
theorem Ht(s:ByteArray):∀k,k<=s.size->bl (dI s k)=34::qL ((bl s).take k)
 |0,_=>rfl
 |k+1,h=>by
  show bl (lU (dI s k) (aO s (k:Int)))=_
  rw[VO,Ht s k (by omega),jb s k h,List.take_succ_eq_append_getElem (show k<(bl s).length from h),Fz,OH]
  rfl
theorem jZ(s:ByteArray):bl (dJ s)=34::(qL (bl s)++[34]):=by
 show bl (dI s s.size++aM 34)=_
 rw[rJ,Ht s s.size (Nat.le_refl _),List.take_of_length_le (show(bl s).length<=s.size from Nat.le_refl _)]
 rfl
inductive Q1 (x:UInt8):Prop
 |sign (h:gI (x.toNat:Int)≠0) (he:q1 x=[92,UInt8.ofNat (gI (x.toNat:Int)).toNat])
 |hex (h:gI (x.toNat:Int)=0) (hl:x.toNat<32) (he:q1 x=[92,117,48,48,UInt8.ofNat (aO eD ((x.toNat:Int)/16)).toNat,UInt8.ofNat (aO eD ((x.toNat:Int)% 16)).toNat])
 |raw (hl:32<=x.toNat) (h1:x.toNat≠34) (h2:x.toNat≠92) (he:q1 x=[x])
theorem Hu(x:UInt8):Q1 x:=by
 have hx:x.toNat<256:=UInt8.toNat_lt _
 by_cases h:gI (x.toNat:Int)=0
 ·by_cases hl:x.toNat<32
  ·refine .hex h hl<|?_
   unfold q1 lU
   rw[if_neg (λg=>g h),if_pos (by omega)]
   rfl
  ·refine .raw (by omega) (λe=>?_) (λe=>?_) ?_
   ·rw[e] at h;revert h;decide
   ·rw[e] at h;revert h;decide
   ·unfold q1 lU
    rw[if_neg (λg=>g h),if_neg (by omega)]
    show[UInt8.ofNat ((x.toNat:Nat):Int).toNat]=[x]
    rw[Fx]
 ·refine .sign h<|?_
  unfold q1 lU
  rw[if_pos h]
  rfl
theorem VP{x:UInt8}(h:128<=x.toNat):q1 x=[x]:=by
 cases Hu x with
 |sign h1 _=>exfalso;apply h1;unfold gI;(repeat' split)<;>omega
 |hex _ h1 _=>omega
 |raw _ _ _ he=>exact he
theorem J9:∀{c:List UInt8},(∀x∈c,128<=x.toNat)->qL c=c
 |[],_=>rfl
 |x::c,h=>by rw[Fy,VP (h x (List.mem_cons_self ..)),J9 λy hy=>h y (List.mem_cons_of_mem _ hy)];rfl
theorem Ka{c:Int}(h:gI c≠0):eH (gI c)=c:=by
 unfold gI at h⊢
 split
 ·subst c;rfl
 ·split
  ·subst c;rfl
  ·split
   ·subst c;rfl
   ·split
    ·subst c;rfl
    ·split
     ·subst c;rfl
     ·split
      ·subst c;rfl
      ·split
       ·subst c;rfl
       ·rename_i h1 h2 h3 h4 h5 h6 h7
        rw[if_neg h1,if_neg h2,if_neg h3,if_neg h4,if_neg h5,if_neg h6,if_neg h7] at h
        exact absurd U h
theorem Hw{k:Int}(h0:0<=k)(h1:k<16):ed (aO eD k)=k:=by
 have h:∀n:Fin 16,ed (aO eD (n.val:Int))=(n.val:Int):=by decide
 have:=h ⟨k.toNat,by omega⟩
 rwa [show(((⟨k.toNat,by omega⟩:Fin 16).val:Nat):Int)=k from by show((k.toNat:Nat):Int)=k;omega] at this
theorem qA{r:Int}(h:r<128):bF r=aM r:=by unfold bF;rw[if_pos h]
theorem OI{l:List UInt8}(hu:vz l):∀(u:ByteArray) (p:Nat) (out:ByteArray),Here u p (qL l++[34])->jA u p out=some (⟨(bl out++l).toArray⟩,p+(qL l).length+1):=by
 induction hu with
 |nil=>
  intro u p out h
  obtain⟨h1,h2,_⟩:=Here.hd (x:=34) (l:=[]) h
  rw[OE h1 h2,List.append_nil]
  rfl
 |cons c r hc hr ih=>
  intro u p out h
  rw[Fz,List.append_assoc] at h
  obtain⟨ha,hb⟩:=h.sp
  rw[Fz,List.length_append]
  have fin:∀(o:ByteArray),bl o=bl out++c->jA u (p+(qL c).length) o=some (⟨(bl out++(c++r)).toArray⟩,p+((qL c).length+(qL r).length)+1):=λo ho=>by
   rw[ih u _ o hb,ho,List.append_assoc]
   congr 2
   omega
  rcases hc.kinds with ⟨x,rfl,hx⟩|⟨h2,h4,hbig⟩
  ·rw[OH] at ha fin⊢
   cases Hu x with
   |sign hs he=>
    rw[he] at ha fin⊢
    obtain⟨h1,h2,h3⟩:=ha.hd
    obtain⟨h4,h5,_⟩:=h3.hd
    have hbd:=Ap (x.toNat:Int)
    rw[zB hbd.1 hbd.2] at h5
    have uZ:jy u p=some ((x.toNat:Int),2):=by
     unfold jy
     rw[h5,Ka hs,if_pos ⟨h4,by omega⟩]
    rw[Lp h1 h2 uZ]
    exact fin _ (by rw[rJ,qA (by omega),Hr,Fx])
   |hex hs hl he=>
    rw[he] at ha fin⊢
    obtain⟨h1,h2,h3⟩:=ha.hd
    obtain⟨_,e1,h4⟩:=h3.hd
    obtain⟨_,e2,h5⟩:=h4.hd
    obtain⟨_,e3,h6⟩:=h5.hd
    obtain⟨_,e4,h7⟩:=h6.hd
    obtain⟨g,e5,_⟩:=h7.hd
    have b1:=gG eD ((x.toNat:Int)/16)
    have b2:=gG eD ((x.toNat:Int)% 16)
    rw[zB b1.1 b1.2] at e4
    rw[zB b2.1 b2.2] at e5
    rw[show p+1+1=p+2 from rfl] at e2
    rw[show p+1+1+1=p+3 from rfl] at e3
    rw[show p+1+1+1+1=p+4 from rfl] at e4
    rw[show p+1+1+1+1+1=p+5 from rfl] at e5 g
    have hun:aR u p=(x.toNat:Int):=by
     unfold aR
     rw[if_pos ⟨by omega,h2,e1⟩,e2,e3,e4,e5,Hw (by omega) (by omega),Hw (by omega) (by omega),if_neg (by
      rintro(k|k|k|k)
      ·exact absurd k (by decide)
      ·exact absurd k (by decide)
      ·omega
      ·omega)]
     show 4096*(0:Int)+256*0+16*((x.toNat:Int)/16)+(x.toNat:Int)% 16=_
     omega
    have uZ:jy u p=some ((x.toNat:Int),6):=by
     unfold jy
     rw[e1,hun,if_neg (λk=>absurd k.2 (by decide)),if_neg (by omega),if_pos (by omega)]
    rw[Lp h1 h2 uZ]
    exact fin _ (by rw[rJ,qA (by omega),Hr,Fx])
   |raw h32 Xx TE he=>
    rw[he] at ha fin⊢
    obtain⟨h1,h2,_⟩:=ha.hd
    have ho:=Ba hc ha
    rw[Lr h1 (by omega) (by omega) ⟨by rw[ho,List.length_singleton];decide,by omega⟩,ho]
    exact fin _ (by rw[rJ];congr 1;exact ha.ext)
  ·rw[J9 hbig] at ha fin⊢
   have ho:=Ba hc ha
   have hl0:0<c.length:=by omega
   obtain⟨h1,h2⟩:=ha.at_ 0 hl0
   have h3:=hbig _ (List.getElem_mem hl0)
   rw[Nat.add_zero] at h1 h2
   rw[Lr h1 (by omega) (by omega) ⟨by rw[ho];omega,by omega⟩,ho,Int.toNat_natCast]
   exact fin _ (by rw[rJ];congr 1;exact ha.ext)
theorem Da{t:ByteArray}(ht:nu t<0){s:ByteArray}{p:Nat}(h:Here s p (bl (dJ t))):gV (s.extract p s.size)=some (t,(dJ t).size):=by
 have h2:=h.LQ
 rw[jZ] at h2
 obtain⟨h3,h4,h5⟩:=h2.hd
 unfold gV
 have hno:¬((s.extract p s.size).size=0\/¬aO (s.extract p s.size) 0=34):=λk=>k.elim (λk=>by omega) (λk=>k h4)
 rw[if_neg hno,OI ((zA t).1 ht) _ _ _ h5]
 have hl:(dJ t).size=(qL (bl t)).length+2:=by
  rw[<-iq,jZ];simp
 rw[hl]
 congr 2
 omega
def RJ(s:ByteArray)(q:Nat):Prop:=q<s.size->aO s (q:Int)=44\/aO s (q:Int)=93\/aO s (q:Int)=125\/ik (aO s (q:Int))=true
def xI(x:UInt8):Prop:=48<=x.toNat/\x.toNat<=57
theorem sI{c:Int}(h:ik c=true):c=32\/c=9\/c=10\/c=13:=by
 unfold ik at h
 simp only[Bool.or_eq_true,beq_iff_eq] at h
 omega
theorem sJ{c:Int}:AO c=true↔48<=c/\c<=57:=by
 unfold AO
 rw[Bool.and_eq_true,decide_eq_true_eq,decide_eq_true_eq]
theorem RJ.TF{s:ByteArray}{q:Nat}(h:RJ s q):aT s q=0:=by
 rw[aT]
 split
 ·rename_i hlt
  have:=h hlt
  rw[if_neg]
  rw[sJ]
  rintro⟨h1,h2⟩
  rcases this with h|h|h|h
  ·omega
  ·omega
  ·omega
  ·rcases sI h with h|h|h|h<;>omega
 ·rfl
theorem yn{s:ByteArray}:∀{l:List UInt8} {p:Nat},Here s p l->(∀x∈l,xI x)->aT s (p+l.length)=0->aT s p=l.length
 |[],p,_,_,h=>h
 |x::l,p,h,hd,h0=>by
  obtain⟨h1,h2,h3⟩:=h.hd
  have hx:=hd x (List.mem_cons_self ..)
  rw[aT,dif_pos h1,h2,if_pos (sJ.2 (by unfold xI at hx;omega)),yn h3 (λy hy=>hd y (List.mem_cons_of_mem _ hy)) (by rw[List.length_cons] at h0;rwa [show p+1+l.length=p+(l.length+1) from by omega])]
  rfl
theorem xk(u:Nat):∀x∈Lib.decDigits u,xI x:=by
 rw[Lib.decDigits]
 split
 ·rename_i h
  intro x hx
  rw[List.mem_singleton] at hx
  subst hx
  unfold xI
  rw[UInt8.toNat_ofNat',Nat.mod_eq_of_lt (by omega)]
  omega
 ·intro x hx
  rcases List.mem_append.1 hx with h|h
  ·exact xk (u/10) x h
  ·rw[List.mem_singleton] at h
   subst h
   unfold xI
   rw[UInt8.toNat_ofNat',Nat.mod_eq_of_lt (by omega)]
   omega
termination_by u
theorem FB(u:Nat):0<(Lib.decDigits u).length:=by
 rw[Lib.decDigits]
 split
 ·simp
 ·simp
theorem Lu:∀(k u:Nat),0<k->u<10^k->(Lib.decDigits u).length<=k
 |0,_,h,_=>absurd h (by decide)
 |k+1,u,_,h=>by
  rw[Lib.decDigits]
  split
  ·simp
  ·rename_i hu
   have hk:0<k:=by
    rcases Nat.eq_zero_or_pos k with rfl|h0
    ·exact absurd (show u<10 from by simpa using h) hu
    ·exact h0
   have:=Lu k (u/10) hk (by rw[Nat.pow_succ] at h;exact Nat.div_lt_of_lt_mul (by rw[Nat.mul_comm];exact h))
   rw[List.length_append,List.length_singleton]
   omega
theorem Hy(u:Nat)(h:0<u):∃d r,Lib.decDigits u=d::r/\d.toNat≠48:=by
 rw[Lib.decDigits]
 split
 ·rename_i hu
  refine⟨_,[],rfl,?_⟩
  rw[UInt8.toNat_ofNat',Nat.mod_eq_of_lt (by omega)]
  omega
 ·obtain⟨d,r,e,hd⟩:=Hy (u/10) (by omega)
  exact⟨d,r++_,by rw[e];rfl,hd⟩
termination_by u
theorem Db(u:Nat):∀{s:ByteArray} {p:Nat},Here s p (Lib.decDigits u)->jo s p (Lib.decDigits u).length=(u:Int):=by
 intro s p h
 rw[Lib.decDigits] at h⊢
 split at h
 ·rename_i hu
  rw[dif_pos hu]
  show 10*jo s p 0+(aO s ((p+0:Nat):Int)-48)=_
  rw[Nat.add_zero,h.hd.2.1,UInt8.toNat_ofNat',Nat.mod_eq_of_lt (by omega)]
  show 10*(0:Int)+_=_
  omega
 ·rename_i hu
  rw[dif_neg hu]
  obtain⟨h1,h2⟩:=h.sp
  have ih:=Db (u/10) h1
  rw[List.length_append,List.length_singleton]
  show 10*jo s p (Lib.decDigits (u/10)).length+(aO s ((p+(Lib.decDigits (u/10)).length:Nat):Int)-48)=_
  rw[ih,h2.hd.2.1,UInt8.toNat_ofNat',Nat.mod_eq_of_lt (by omega)]
  omega
termination_by u
theorem OJ:Lib.decDigits 0=[48]:=by rw[Lib.decDigits];rfl
theorem Dc{s:ByteArray}{p a u:Nat}(hp:p<=a)(hu:u<=9007199254740991)(h:Here s a (Lib.decDigits u))(hz:p<a->0<u)(hs:RJ s (a+(Lib.decDigits u).length)):
 rG s p a=.ok (a+(Lib.decDigits u).length) (qO (if p<a then-(u:Int) else(u:Int))):=by
 have hd:=yn h (xk u) hs.TF
 have hn:=Db u h
 have hl:=Lu 16 u (by decide) (by omega)
 have h0:=FB u
 unfold rG
 rw[hd,hn,if_neg,if_neg,if_neg (by omega)]
 ·rintro(⟨hlt,hc⟩|hc)
  ·rcases hs hlt with g|g|g|g
   ·omega
   ·omega
   ·omega
   ·rcases sI g with g|g|g|g<;>omega
  ·omega
 ·rintro(hc|⟨hc,hc2⟩)
  ·omega
  ·rcases Nat.eq_zero_or_pos u with rfl|hpos
   ·rw[OJ] at hc2
    rcases hc2 with hc2|hc2
    ·exact absurd hc2 (by decide)
    ·exact absurd (hz hc2) (by decide)
   ·obtain⟨d,r,e,hne⟩:=Hy u hpos
    rw[e] at h
    have:=h.hd.2.1
    omega
theorem MJ{s:ByteArray}{p:Nat}{n:Int}(h0: -9007199254740991<=n)(h1:n<=9007199254740991)(h:Here s p (bl (kI n)))(hs:RJ s (p+(kI n).size)):ko s p=.ok (p+(kI n).size) (qO n)/\(bT s p 45=true\/0<aT s p)/\bT s p 91=false/\bT s p 123=false/\bT s p 34=false:=by
 have hz:(kI n).size=(Lib.itoa n).length:=rfl
 rw[show bl (kI n)=Lib.itoa n from rfl] at h
 rw[hz] at hs⊢
 unfold Lib.itoa at h hs⊢
 by_cases hn:n<0
 ·rw[if_pos hn] at h hs⊢
  have e:=ng h
  have h3:=h.hd.2.2
  rw[List.length_cons] at hs
  rw[show p+((Lib.decDigits n.natAbs).length+1)=p+1+(Lib.decDigits n.natAbs).length from by omega] at hs
  refine⟨?_,.inl (e 45),e 91,e 123,e 34⟩
  have e45:bT s p 45=true:=e 45
  unfold ko
  rw[if_pos e45,Dc (by omega) (by omega) h3 (λ_=>by omega) hs,if_pos (by omega),List.length_cons,show p+((Lib.decDigits n.natAbs).length+1)=p+1+(Lib.decDigits n.natAbs).length from by omega,show-((n.natAbs:Nat):Int)=n from by omega]
 ·rw[if_neg hn] at h hs⊢
  have hp:=FB n.toNat
  have hdig:=xk n.toNat
  have hd:=yn h hdig hs.TF
  have hA:=λ(PU:p<=p)=>Dc PU (by omega) h (λg=>absurd g (Nat.lt_irrefl _)) hs
  have key:∀c:Int,¬(48<=c/\c<=57)->bT s p c=false:=λc hc=>by
   obtain⟨g1,g2⟩:=h.at_ 0 hp
   have:=hdig _ (List.getElem_mem hp)
   unfold xI at this
   rw[Nat.add_zero] at g1 g2
   unfold bT
   rw[g2,Bool.and_eq_false_iff]
   right
   rw[beq_eq_false_iff_ne]
   intro e
   omega
  refine⟨?_,.inr (by omega),key 91 (by omega),key 123 (by omega),key 34 (by omega)⟩
  unfold ko
  rw[if_neg (by rw[key 45 (by omega)];decide),hA (Nat.le_refl _),if_neg (Nat.lt_irrefl _),show((n.toNat:Nat):Int)=n from by omega]
theorem yo{s w:ByteArray}{p:Nat}(h:Here s p (bl w))(hp:p<=s.size):preB s p w=true:=by
 have hle:=h.le' hp
 have he:s.extract p (p+w.size)=w:=lH h.ext
 unfold preB
 rw[he,decide_eq_true (show p+w.size<=s.size from hle),Bool.true_and]
 exact beq_self_eq_true _
theorem o7{s w:ByteArray}{p:Nat}{x:UInt8}{l:List UInt8}{y:UInt8}{m:List UInt8}(h:Here s p (x::l))(hw:bl w=y::m)(hne:x≠y):preB s p w=false:=by
 cases hb:preB s p w with
 |false=>rfl
 |true=>
  exfalso
  unfold preB at hb
  obtain⟨h1,h2⟩:=Bool.and_eq_true_iff.1 hb
  have h3:=kK (eq_of_beq h2)
  obtain⟨r,hr⟩:=h
  have h4:bl (s.extract p (p+w.size))=y::m:=by rw[h3,hw]
  rw[bZ,hr] at h4
  have:p+w.size-p=(y::m).length:=by rw[Nat.add_sub_cancel_left,<-iq,hw]
  rw[this] at h4
  simp at h4
  exact hne h4.1
theorem yt{s:ByteArray}{p:Nat}(h0:p<=s.size):
 (Here s p (bl gU)->eG s p=.ok (p+4) zeroV)/\(Here s p (bl iH)->eG s p=.ok (p+4) (.mk 1 1 ⟨#[]⟩ [] []))/\(Here s p (bl fI)->eG s p=.ok (p+5) (.mk 1 0 ⟨#[]⟩ [] [])):=by
 refine⟨λh=>?_,λh=>?_,λh=>?_⟩
 ·unfold eG
  rw[if_pos (yo h h0)]
 ·unfold eG
  rw[if_neg (by rw[o7 (w:=gU) (x:=116) (l:=[114,117,101]) h U (by decide)];decide),if_pos (yo h h0)]
 ·unfold eG
  rw[if_neg (by rw[o7 (w:=gU) (x:=102) (l:=[97,108,115,101]) h U (by decide)];decide),if_neg (by rw[o7 (w:=iH) (x:=102) (l:=[97,108,115,101]) h U (by decide)];decide),if_pos (yo h h0)]
theorem Kb{s:ByteArray}{p:Nat}{x:UInt8}{l:List UInt8}(h:Here s p (x::l))(hx:¬xI x):aT s p=0:=by
 obtain⟨h1,h2,_⟩:=h.hd
 rw[aT,dif_pos h1,h2,if_neg]
 rw[sJ]
 unfold xI at hx
 omega
def RO(r:AV)(n0:List (Nat×Ob))(G:Hp)(u:AV)(H':Hp):Prop:=∃news,aK G news/\H'=aB G news/\(u=r/\news=n0)
def qB:ByteArray:=⟨#[32,9,10,13]⟩
def j3:List AV:=(Lib.setCells [32,9,10,13]).toList.map .v
theorem Hz(n:Fin 256):j3[n.val]? =some (.v (.bool (ik (n.val:Int)))):=by
 have h:∀n:Fin 256,([32,9,10,13]:List UInt8).contains (UInt8.ofNat n.val)=ik (n.val:Int):=by decide
 have h2:=Lib.setCells_at [32,9,10,13] (UInt8.ofNat n.val)
 rw[show(UInt8.ofNat n.val).toNat=n.val from by rw[UInt8.toNat_ofNat',Nat.mod_eq_of_lt n.isLt],h n] at h2
 unfold j3
 rw[List.getElem?_map,Array.getElem?_toList,h2];rfl
theorem RL:(Tryz.prog.info? 130).map (·.zero)=some (some (.agg (Array.replicate 256 (.bool false)))):=by kernel_rfl
theorem FC(H:Hp):F Tryz.prog 97 [.v (.string qB)] H (bn H (.dH [.agg j3,.v (.bool true)])):=
 yj _ (.tuple #[.agg (Lib.setCells qB.data.toList),.bool true]) (λok ρ w=>EX (.agg j3 (Lib.setCells [32,9,10,13]).toList (by unfold j3;rw[List.length_map]) λj u x h1 h2=>by
  unfold j3 at h1
  rw[List.getElem?_map,h2] at h1
  cases h1
  exact .v _)) ⟨_,Tryz.func97,by kernel_rfl,by kernel_rfl⟩ λρ w vals hh hr=>by
  obtain⟨hl,hr⟩:=hr
  match vals,hl,hr with
  |[x],hl,hr=>
   have e1:=aP (hr 0 _ _ U U)
   subst e1
   refine(Tryz.strings_makeASCIISet (λw=>by kernel_rfl) qB w (by decide) (by
    intro j b hj
    have:b∈qB.data.toList:=List.mem_of_getElem? hj
    revert this
    show b∈[32,9,10,13]->_
    intro hm
    simp at hm
    rcases hm with rfl|rfl|rfl|rfl<;>decide)).mono ?_
   rintro e w' ⟨he,rfl⟩
   exact⟨he,(Below.refl _ _).alloc (Nat.le_refl _) _⟩
theorem BZ(p:Nat)(c:Int)(h0:0<=c)(h1:c<256)(H:Hp)(hp:H p=some (.box 130 j3)):F Tryz.prog 115 [.ptr p 0,.v (.int .u8 c)] H (bn H (.v (.bool (ik c)))):=by
 have hg:j3[0+c.toNat*1]? =some (.v (.bool (ik c))):=by
  have:=Hz ⟨c.toNat,by omega⟩
  rwa [show((c.toNat:Nat):Int)=c from by omega,show(⟨c.toNat,by omega⟩:Fin 256).val=0+c.toNat*1 from by show c.toNat=_;omega] at this
 refine aA (n:=10) (H0:=H) (M:=[]) Tryz.func115 (by kernel_rfl) U (by rw[Tryz.ntmps115];rfl) .nil<|?_
 refine Q.rg<|Q.as U<|Q.nt<|Q.rg<|Q.mv U<|Q.mv U<|S.qu (Z.iC U)<|S.qu (Z.iar (len:=256) (e:=4) (s:=1) (by kernel_rfl) U U h0 (by omega))<|S.qu (Z.WY hp ty4 U hg)<|Q.as U<|Q.nt<|UW.ret<|S.bG (λ_=>au U U)<|?_
 rfl
theorem Bc(a:ByteArray):∀k:Nat,k<a.size->aC a k=if ik (aO a (k:Int))=true then aC a (k+1) else k:=λk h=>by
 rw[aC,dif_pos h]
theorem sK(a:ByteArray)(k:Nat)(h:¬k<a.size):aC a k=k:=by rw[aC,dif_neg h]
theorem RN(a:ByteArray):a.extract 0 a.size=a:=by
 apply lH
 rw[bZ,List.drop_zero,List.take_of_length_le]
 rw[iq];exact Nat.le_refl _
theorem Bd(p:Nat)(a:ByteArray)(ha:a.size<=1000000)(H:Hp)(hp:H p=some (.box 130 j3)):F Tryz.prog 98 [.v (.string a),.ptr p 0] H (bn H (.v (.string (a.extract (aC a 0) a.size)))):=by
 refine aA (n:=16) (H0:=H) (M:=[]) Tryz.func98 (by kernel_rfl) U (by rw[Tryz.ntmps98];rfl) .nil<|?_
 refine Q.rg<|Q.as U<|Q.nt<|S.sq<|UW.block<|S.loop (λk:Nat=>[(1,.ptr p 0),(0,.v (.string (a.extract k a.size)))]) (λ_=>[]) (λk=>k<=a.size/\aC a k=aC a 0) (λk=>a.size-k) 0 ⟨Nat.zero_le _,rfl⟩ ⟨rfl,by rw[RN];rfl,trivial⟩ (.refl _)<|?_
 rintro k ⟨hk,hs⟩
 have hz:(a.extract k a.size).size=a.size-k:=by rw[ByteArray.size_extract];omega
 by_cases hlt:k<a.size
 ·have hb:=gG a (k:Int)
  have hat:aO (a.extract k a.size) 0=aO a (k:Int):=by
   have:=jC a k 0 (by omega)
   exact this
  have hcs:=λH hp=>BZ p (aO a (k:Int)) hb.1 hb.2 H hp
  have hst:=Bc a k hlt
  have hnx:(a.extract k a.size).extract 1 (a.extract k a.size).size=a.extract (k+1) a.size:=by
   rw[hz]
   apply lH
   simp only[bZ,List.drop_take,List.drop_drop,List.take_take]
   congr 1
   omega
  cases hbl:ik (aO a (k:Int)) with
  |true=>
   rw[hbl] at hst hcs
   rw[if_pos U] at hst
   refine S.sq<|Q.rg<|Q.mv U<|S.qu (Z.fC Tryz.underlying9 U)<|Q.bi U U U<|Q.nt<|S.cT U (decide_eq_true (by omega))<|UW.skip<|UQ.then<|UW.block<|S.sq<|Q.rg<|Q.mv U<|Q.mv U<|S.qu (Z.eq (u':=.v (.int .u8 (aO a (k:Int)))) (Z.is Tryz.underlying9 U U (by omega) (by omega)) (by rw[hat]))<|?_
   refine S.qu (Z.aQ U U (λ_=>hcs H hp))<|S.qu (Z.not U)<|Q.nt<|S.cF U U<|UW.skip<|UQ.then<|S.rg<|Q.mv U<|S.qu (Z.eq (u':=.v (.string (a.extract (k+1) a.size))) (Z.slt (p:=a.extract k a.size) (m:=1) (m':=(a.extract k a.size).size) Tryz.underlying9 U (.lo U) (by omega) (by omega)) (by rw[hnx]))<|?_
   refine Q.as U<|US.nil<|UQ.aI<|?_
   refine S.back (k+1) ⟨rfl,rfl,trivial⟩ (.refl _) (by omega) (by omega)
  |false=>
   rw[hbl] at hst hcs
   rw[if_neg (by decide)] at hst
   rw[<-hs,hst]
   refine S.sq<|Q.rg<|Q.mv U<|S.qu (Z.fC Tryz.underlying9 U)<|Q.bi U U U<|Q.nt<|S.cT U (decide_eq_true (by omega))<|UW.skip<|UQ.then<|UW.block<|S.sq<|Q.rg<|Q.mv U<|Q.mv U<|S.qu (Z.eq (u':=.v (.int .u8 (aO a (k:Int)))) (Z.is Tryz.underlying9 U U (by omega) (by omega)) (by rw[hat]))<|?_
   refine S.qu (Z.aQ U U (λ_=>hcs H hp))<|S.qu (Z.not U)<|Q.nt<|S.cT U U<|UW.exit<|UQ.pass<|UQ.out (by decide)<|UQ.pass<|UQ.here<|UQ.then<|Q.rg<|Q.mv U<|Q.as U<|Q.nt<|UW.ret<|S.bG (λ_=>au U U)<|?_
   rfl
 ·rw[<-hs,sK a k hlt]
  refine S.sq<|Q.rg<|Q.mv U<|S.qu (Z.fC Tryz.underlying9 U)<|Q.bi U U U<|Q.nt<|S.cF U (decide_eq_false (by omega))<|UW.exit<|UQ.pass<|UQ.pass<|UQ.here<|UQ.then<|Q.rg<|Q.mv U<|Q.as U<|Q.nt<|UW.ret<|S.bG (λ_=>au U U)<|?_
  rfl
theorem OL(a:ByteArray)(h:a.size≠0):¬a.toList=(⟨#[]⟩:ByteArray).toList:=λe=>by
 have:=kK e
 rw[this] at h
 exact h U
theorem Ca(a:ByteArray)(ha:a.size<=1000000)(H:Hp):F Tryz.prog 76 [.v (.string a),.v (.string qB)] H (bn H (.v (.string (a.extract (aC a 0) a.size)))):=by
 have hts:=λp H hp=>Bd p a ha H hp
 by_cases h0:a.size=0
 ·have:a=⟨#[]⟩:=ByteArray.ext (Array.eq_empty_of_size_eq_zero h0)
  subst this
  rw[sK _ _ (by decide)]
  refine aA (n:=37) (H0:=H) (M:=[]) Tryz.func76 (by kernel_rfl) U (by rw[Tryz.ntmps76];rfl) .nil<|?_
  focus
   refine Q.rg<|Q.as U<|Q.nt<|S.sq<|Q.rg<|Q.mv U<|S.qu (Z.bs U U U)<|Q.mv U<|?_
   refine S.tE 9 (λAj=>?_) (λAj=>?_)
   rotate_left
   contradiction
   refine Q.of<|Q.of<|Q.pk U U<|Q.nt<|S.cT U U<|Q.rg<|Q.mv U<|Q.as U<|Q.nt<|UW.ret<|UQ.aj<|S.bG (λ_=>au U U)<|?_
   rfl
 ·have hne:=OL a h0
  have hcb:(qB.toList==(⟨#[]⟩:ByteArray).toList)=false:=beq_eq_false_iff_ne.2 (OL qB (by decide))
  have hcf:(a.toList==(⟨#[]⟩:ByteArray).toList)=false:=beq_eq_false_iff_ne.2 hne
  generalize a.extract (aC a 0) a.size=r at*
  refine aA (n:=37) (H0:=H) (M:=[]) Tryz.func76 (by kernel_rfl) U (by rw[Tryz.ntmps76];rfl) .nil<|?_
  refine Q.rg<|Q.as U<|Q.nt<|S.sq<|Q.rg<|Q.mv U<|S.qu (Z.tF (Z.bs U U U) hcf)<|Q.mv U<|Q.on (Z.mv U)<|Q.on (Z.tF (Z.bs U U U) hcb)<|Q.pk U U<|Q.nt<|S.cF U U<|UW.skip<|UQ.then<|S.sq<|Q.rg<|Q.mv U<|S.qu (Z.fC Tryz.underlying9 U)<|Q.bi U U U<|Q.mv U<|?_
  refine S.tE 17 (λhc17=>?_) (λhc17=>?_)
  contradiction
  refine Q.of<|Q.of<|Q.of<|Q.pk U U<|Q.nt<|S.cF U U<|UW.skip<|UQ.then<|S.sq<|Q.rg<|Q.mv U<|S.qu (Z.call U U (λH=>FC H))<|Q.mv U<|S.qu (Z.ex U U)<|S.qu (Z.ex U U)<|S.dd<|D.al RL U U U λp5=>S.s<|D.st 0 Xz U U U U U U U U λ_=>Q.as U<|Q.nt<|Q.rg<|Q.mv U<|Q.nt<|S.cT U U<|Q.rg<|Q.mv U<|S.qu (Z.aQ U U (λhd=>hts p5 _ (hd.at_ (k:=0) U)))<|Q.as U<|Q.nt<|UW.ret<|UQ.aj<|S.bG (λ_=>au U U)<|?_
  rfl
theorem De(s:ByteArray)(q:Nat):∀k:Nat,q+k<=s.size->aC (s.extract q s.size) k=aC s (q+k)-q:=by
 intro k hk
 by_cases hlt:q+k<s.size
 ·have hat:=jC s q k hlt
  have hz:(s.extract q s.size).size=s.size-q:=by rw[ByteArray.size_extract];omega
  rw[Bc _ k (by omega),Bc s (q+k) hlt,hat]
  split
  ·exact De s q (k+1) (by omega)
  ·omega
 ·have hz:(s.extract q s.size).size=s.size-q:=by rw[ByteArray.size_extract];omega
  rw[sK _ k (by omega),sK s (q+k) hlt]
  omega
termination_by k=>s.size-q-k
theorem bX(p:Nat)(s:ByteArray)(q d:Nat)(hs:s.size<=1000000)(hq:q<=s.size)(G:Hp)(hd:aK G [bN p s q d]):F Tryz.prog 54 [.ptr p 0] (aB G [bN p s q d]) (RO (.dH []) [bN p s (aC s q) d] G):=by
 have hr:=cz p s q d hs hq
 have hge:=bu s q
 have hle:=aX s q hq
 have hz:(s.extract q s.size).size=s.size-q:=by rw[ByteArray.size_extract];omega
 have ht:=Ca (s.extract q s.size) (by omega)
 have h0:=De s q 0 hq
 rw[Nat.add_zero] at h0
 rw[h0,hz] at ht
 have hz2:((s.extract q s.size).extract (aC s q-q) (s.size-q)).size=s.size-aC s q:=by rw[ByteArray.size_extract,hz];omega
 generalize (s.extract q s.size).extract (aC s q-q) (s.size-q)=u at*
 generalize aC s q=c at*
 unfold bN at hd⊢
 refine aA (n:=15) (H0:=G) (M:=[(p,.box 60 (gu s q d))]) Tryz.func54 (by kernel_rfl) U (by rw[Tryz.ntmps54];rfl) hd<|?_
 focus
  refine' UW.dC (by kernel_rfl) [0,0,2,6,14,30,0,64,192,448,1022,2047,4095,8191] [some 2,some 3,some 4,some 5,some 6,some 7,some 8,some 9,some 10,some 11,some 12,some 13,some 14,none] [some (2,_),some (3,_),some (4,_),some (5,_),some (6,_),some (7,_),some (8,_),some (9,_),some (10,_),some (11,_),some (12,_),some (13,_),some (14,_),none] [13] [4,7] U (by decide) (by decide) (I.free (by decide) U U ?jK (I.free (by decide) U U ?jL (I.free (by decide) U U ?u6 (I.free (by decide) U U ?J2 (I.held (by decide) U U ?J3 (I.free (by decide) U U ?J4 (I.free (by decide) U U ?J5 (I.held (by decide) U U ?J6 (I.free (by decide) U U ?J7 (I.free (by decide) U U ?J8 (I.free (by decide) U U ?RP (I.free (by decide) U U ?RQ (I.free (by decide) U U ?RS (I.skip I.nil)))))))))))))) ?u7
  case jK=>(intro _;exact Z.mv rfl)
  case jL=>(intro _;exact Z.mv rfl)
  case u6=>(intro _;exact Z.iC rfl)
  case J2=>(intro _;exact Z.fa TD rfl)
  case J3=>exact Z.dQ 0 fJ rfl rfl rfl
  case J4=>(intro _;exact Z.fC Tryz.underlying9 rfl)
  case J5=>(intro _;exact Z.mv rfl)
  case J6=>exact Z.aQ rfl rfl (λhd=>hr _ (hd.at_ (k:=0) rfl))
  case J7=>(intro _;exact Z.call rfl rfl (λH=>ht H))
  case J8=>(intro _;exact Z.fC Tryz.underlying9 rfl)
  case RP=>(intro _;exact Z.sub (r:=(c:Int)) rfl rfl (Eq.trans (IntWalk.i64_in _ (by omega)) (by omega)))
  case RQ=>(intro _;exact Z.iC rfl)
  case RS=>(intro _;exact Z.fa eu rfl)
  refine CH.aV U U<|D.st 0 bC U U U U U U U U λ_=>CH.nil<|?_
  simp only[app,bV]
  rotate_left
  rotate_left
  rotate_left
  rotate_left
  rotate_left
  rotate_left
  rotate_left
  rotate_left
  rotate_left
  rotate_left
  rotate_left
  rotate_left
  rotate_left
  rotate_left
 exact bD [_] (λ_=>zR U) (.refl _) λhd=>⟨_,hd,rfl,rfl,rfl⟩
theorem sM(p:Nat)(s:ByteArray)(q d:Nat)(hs:s.size<=1000000)(hq:q<=s.size)(c:ByteArray)(hc:Lib.hasPrefix (s.extract q s.size).data.toList c.data.toList=true)(hcs:c.size<=1000000)(G:Hp)(hd:aK G [bN p s q d]):F Tryz.prog 100 [.ptr p 0,.v (.string c)] (aB G [bN p s q d]) (RO (.v .nilIface) [bN p s (q+c.size) d] G):=by
 have hi:=xh p s q d hs hq c
 rw[hc] at hi
 unfold bN at hd⊢
 refine aA (n:=20) (H0:=G) (M:=[(p,.box 60 (gu s q d))]) Tryz.func100 (by kernel_rfl) U (by rw[Tryz.ntmps100];rfl) hd<|?_
 refine Q.rg<|Q.as U<|Q.nt<|S.sq<|Q.rg<|Q.mv U<|Q.mv U<|S.qu (Z.aQ U U (λhd=>hi _ (hd.at_ (k:=0) U)))<|S.qu (Z.not U)<|Q.nt<|S.cF U U<|UW.skip<|UQ.then<|Q.rg<|Q.mv U<|S.qu (Z.iC U)<|Q.fa eu U<|Q.lc 0 bC U U U<|Q.mv U<|S.qu (Z.fC Tryz.underlying9 U)<|S.qu (Z.add (r:=((q+c.size:Nat):Int)) U U (IntWalk.i64_in _ (by omega)))<|S.qu (Z.iC U)<|Q.fa eu U<|S.s<|D.st 0 bC U U U U U U U U λ_=>Q.nt<|Q.rg<|Q.as U<|Q.nt<|UW.ret<|?_
 exact bD [_] (λ_=>au U U) (.refl _) λhd=>⟨_,hd,rfl,rfl,rfl⟩
theorem Be(p:Nat)(s:ByteArray)(q d:Nat)(hs:s.size<=1000000)(hq:q<=s.size)(c:ByteArray)(hc:Lib.hasPrefix (s.extract q s.size).data.toList c.data.toList=false)(hcs:c.size<=1000000)(G:Hp)(hd:aK G [bN p s q d]):F Tryz.prog 100 [.ptr p 0,.v (.string c)] (aB G [bN p s q d]) (RO (F5 11 q) [bN p s q d] G):=by
 have hi:=xh p s q d hs hq c
 have hw:=dK p s q d 11
 rw[hc] at hi
 unfold bN at hd⊢
 refine aA (n:=20) (H0:=G) (M:=[(p,.box 60 (gu s q d))]) Tryz.func100 (by kernel_rfl) U (by rw[Tryz.ntmps100];rfl) hd<|?_
 refine Q.rg<|Q.as U<|Q.nt<|S.sq<|Q.rg<|Q.mv U<|Q.mv U<|S.qu (Z.aQ U U (λhd=>hi _ (hd.at_ (k:=0) U)))<|S.qu (Z.not U)<|Q.nt<|S.cT U U<|Q.rg<|Q.mv U<|S.qu (Z.aQ U U (λhd=>hw _ (hd.at_ (k:=0) U)))<|Q.as U<|Q.nt<|UW.ret<|UQ.aj<|?_
 exact bD [_] (λ_=>au U U) (.refl _) λhd=>⟨_,hd,rfl,rfl,rfl⟩
end Go.Proofs.YtbooeongacgnbaaGreatDoor
end
