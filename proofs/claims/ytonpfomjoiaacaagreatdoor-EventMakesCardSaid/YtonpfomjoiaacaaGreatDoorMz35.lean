/- A part of the proof. -/
import Derived.Test.YtonpfomjoiaacaaGreatDoorMz34
import Derived.Test.YtonpfomjoiaacaaGreatDoorMz33
import Derived.Test.YtonpfomjoiaacaaGreatDoorMz23
import Derived.Test.YtonpfomjoiaacaaGreatDoorMz15
set_option maxRecDepth 100000
set_option maxHeartbeats 4000000
set_option linter.unusedSectionVars false
set_option linter.unusedVariables false
set_option linter.unusedSimpArgs false
section
namespace Go.Proofs.YtonpfomjoiaacaaGreatDoor
open Go Go.fT Go.RowKit
def Good(d:Int)(x:V):Prop:=Fits x/\Tx x/\dh x<=d
theorem qZ{k n:Int}{t:ByteArray}{ks:List ByteArray}{vs:List V}{d:Int}(hd:0<=d)(h:∀v∈vs,dh v<=d):dh (.mk k n t ks vs)<=d+1:=by
 rw[dh]
 split
 ·rw[vW,Q4 _ (λc hc=>by obtain⟨x,_,rfl⟩:=List.mem_map.1 hc;exact yX x)]
  have:=rX (r:=vs.map dh) (a:=d) (b:=0) hd (λc hc=>by obtain⟨x,hx,rfl⟩:=List.mem_map.1 hc;exact h x hx)
  omega
 ·omega
theorem JS{k n:Int}{t:ByteArray}{ks:List ByteArray}{vs:List V}{d:Int}(hd:0<=d)(h1:ks.length<=1000000)(h2:vs.length<=1000000)(h3:t.size<=4000000)(h4:∀s∈ks,s.size<=4000000)(h:∀v∈vs,Good d v):Good (d+1) (.mk k n t ks vs):=
 ⟨.mk _ _ _ _ _ h1 h2 λx hx=>(h x hx).1,.mk _ _ _ _ _ h3 h4 λx hx=>(h x hx).2.1,qZ hd λv hv=>(h v hv).2.2⟩
theorem Good.up{d d':Int}{x:V}(h:Good d x)(hd:d<=d'):Good d' x:=⟨h.1,h.2.1,by have:=h.2.2;omega⟩
theorem oC{k n:Int}{t:ByteArray}{d:Int}(hd:0<=d)(h3:t.size<=4000000)(hk:k<4):Good d (.mk k n t [] []):=
 ⟨.mk _ _ _ _ _ (by simp) (by simp) (by simp),.mk _ _ _ _ _ h3 (by simp) (by simp),by rw[dh,if_neg (by omega)];exact hd⟩
theorem AU{d:Int}(hd:0<=d):Good d zeroV:=oC hd (by decide) (by decide)
theorem Yk{x:V}{d:Int}(hd:0<=d)(h1:x.ks.length<=1000000)(h2:x.vs.length<=1000000)(h3:x.t.size<=4000000)(h4:∀s∈x.ks,s.size<=4000000)(h:∀v∈x.vs,Good d v):Good (d+1) x:=by
 obtain⟨k,n,t,ks,vs⟩:=x
 exact JS hd h1 h2 h3 h4 h
theorem Yl(x:V)(key:ByteArray)(y:V):(bH x key y).t=(eP x).t:=by unfold bH;split<;>rfl
theorem Ur(b1:Int)(kids:List V):∀q,(nD b1 kids q).t=⟨#[]⟩
 |0=>rfl
 |q+1=>by
  show(bH _ _ _).t=_
  rw[Yl]
  unfold eP
  split
  ·exact Ur b1 kids q
  ·rfl
theorem GJ(b1:Int)(kids:List V)(d:Int)(hd:0<=d)(hk:∀x∈kids,Good d x):∀q,∀v∈(nD b1 kids q).vs,Good d v
 |0=>by intro v h;cases h
 |q+1=>by
  intro v hv
  rcases sV hv with h|h
  ·have e:eP (nD b1 kids q)=nD b1 kids q\/eP (nD b1 kids q)=.mk 5 0 ⟨#[]⟩ [] []:=by unfold eP;split;exact .inl U;exact .inr U
   rcases e with e|e
   ·rw[e] at h;exact GJ b1 kids d hd hk q v h
   ·rw[e] at h;cases h
  ·subst h
   by_cases hi:q<kids.length
   ·exact hk _ (eY hi)
   ·simp only[List.getD,List.getElem?_eq_none (Nat.le_of_not_lt hi)];exact AU hd
theorem Us(b0 b1:Int)(t:ByteArray)(l:List V)(d:Int)(hd:0<=d)(ht:t.size<=4000000)(hl:l.length<=1000)(h:∀x∈l,Good d x):Good (d+1) (BL b0 b1 t l).2:=by
 have hk:∀x∈cZ b1 l,Good d x:=λx hx=>h x (List.mem_of_mem_drop hx)
 have hkl:(cZ b1 l).length<=l.length:=by unfold cZ;rw[List.length_drop];omega
 unfold BL
 repeat' split
 ·exact oC (by omega) (by decide) (by decide)
 ·exact oC (by omega) (by decide) (by decide)
 ·exact oC (by omega) (by decide) (by decide)
 ·exact oC (by omega) (by decide) (by decide)
 ·exact oC (by omega) ht (by decide)
 ·exact JS hd (by simp) (by omega) (by decide) (by simp) hk
 ·obtain⟨_,h1,h2,h3,_⟩:=wh b1 (cZ b1 l) (λx hx=>(hk x hx).1) (cZ b1 l).length
  show Good (d+1) (nD b1 (cZ b1 l) (cZ b1 l).length)
  exact Yk hd (by omega) (by omega) (by rw[Ur];decide) h3 (GJ b1 _ d hd hk _)
 ·exact AU (by omega)
theorem AX(c:List Int):∀n,n<=100->∀x∈nE c n,Good (n:Int) x
 |0,_=>by intro x h;cases h
 |n+1,hn=>by
  obtain⟨h1,_⟩:=Cw c n (by omega)
  have ih:=AX c n (by omega)
  intro x hx
  rcases List.mem_append.1 hx with h|h
  ·exact(ih x (List.mem_of_mem_take h)).up (by omega)
  ·rw[List.mem_singleton.1 h]
   exact Us _ _ _ _ n (by omega) (Nat.le_trans (textOf_size _) (by decide)) (by omega) ih
theorem OQ(c:List Int):Good 31 (valOf c):=by
 obtain⟨h1,_⟩:=Cw c (min (c.length/2) 30) (by omega)
 have h2:=AX c (min (c.length/2) 30) (by omega)
 exact(JS (d:=((min (c.length/2) 30:Nat):Int)) (by omega) (by simp) (by omega) (by decide) (by simp) h2).up (by omega)
theorem EL{k n:Int}{t:ByteArray}{ks:List ByteArray}{vs:List V}(h:dG (.mk k n t ks vs)=true):∀v∈vs,dG v=true:=by
 intro v hv
 obtain⟨j,hj,rfl⟩:=List.getElem_of_mem hv
 cases hr:dG vs[j] with
 |true=>rfl
 |false=>rw[Gy (DJ hj hr)] at h;cases h
theorem OT:dG zeroV=true:=by kernel_rfl
def pE(c:List Int)(b:Int):V:=
 if (valOf c).vs.length=0\/dG (valOf c)=false then zeroV else(valOf c).vs.getD (b.tmod ((valOf c).vs.length:Int)).toNat zeroV
theorem AY(c:List Int)(b:Int)(hb:0<=b):pE c b=zeroV\/(pE c b∈(valOf c).vs/\dG (valOf c)=true):=by
 unfold pE
 split
 ·exact .inl U
 ·rename_i h
  rw[not_or] at h
  refine .inr ⟨eY ?_,by simpa using h.2⟩
  have h1:=Int.tmod_nonneg ((valOf c).vs.length:Int) hb
  have h2:=Int.tmod_lt_of_pos b (by omega:(0:Int)<((valOf c).vs.length:Int))
  omega
theorem EM(c:List Int)(b:Int)(hb:0<=b):Good 30 (pE c b):=by
 rcases AY c b hb with h|⟨h,_⟩
 ·rw[h];exact AU (by decide)
 ·exact(AX c _ (by omega) _ h).up (by omega)
theorem L8(c:List Int)(b:Int)(hb:0<=b):dG (pE c b)=true:=by
 rcases AY c b hb with h|⟨h,h2⟩
 ·rw[h];exact OT
 ·exact EL h2 _ h
theorem RA(c:List Int)(hc:zh c)(b:Int)(hb0:0<=b)(hb1:b<256)(H:Hp):au Tryz.prog 82 [BD c,.v (.int .u8 b)] H (bz H (.agg (aD (pE c b)))):=by
 have h0:(valOf c).vs.length=0\/dG (valOf c)=false->pE c b=zeroV:=λh=>by unfold pE;rw[if_pos h]
 have h1:¬((valOf c).vs.length=0\/dG (valOf c)=false)->pE c b=(valOf c).vs.getD (b.tmod ((valOf c).vs.length:Int)).toNat zeroV:=λh=>by unfold pE;rw[if_neg h]
 have hg:=OQ c
 have hval:∀H,au Tryz.prog 117 [BD c] H (bz H (.agg (aD (valOf c)))):=Uq c hc
 generalize valOf c=x at*
 obtain⟨k,n,t,ks,vs⟩:=x
 simp only[yD] at h0 h1
 have hvl:=aP vs
 by_cases hz:vs.length=0
 ·rw[h0 (.inl hz)]
  refine aF (n:=28) (H0:=H) (I:=[]) Tryz.func82 (by kernel_rfl) U (by rw[Tryz.ntmps82];rfl) .nil<|?_
  focus
   refine Q.rg<|S.dd<|D.al z26 U U U λp4=>Q.nt<|Q.rg<|Q.mv U<|S.qu (Z.call U U (λ_=>hval _))<|S.dd<|D.al z26 U U U λp5=>S.s<|D.st 0 av U U U U U U U U λ_=>Q.nt<|S.sq<|Q.rg<|Q.fa bO U<|Q.lc 0 dF U U U<|S.qu (Z.fG bM U)<|Q.bi U U U<|Q.mv U<|?_
   refine S.tE 12 (λAr=>?_) (λAr=>?_)
   rotate_left
   omega
   refine Q.of<|Q.of<|Q.of<|Q.pk U U<|Q.nt<|S.cT U U<|Q.rg<|S.qu (Z.bd [] iE U U U U U U)<|S.s<|D.st 1 av U U U U U U U U λ_=>Q.nt<|UW.ret<|UQ.ax<|S.bK (λhd=>aU (k:=1) hd U U U fV fZ)<|?_
   rfl
 ·cases hr:dG (.mk k n t ks vs) with
  |false=>
   rw[h0 (.inr hr)]
   refine aF (n:=28) (H0:=H) (I:=[]) Tryz.func82 (by kernel_rfl) U (by rw[Tryz.ntmps82];rfl) .nil<|?_
   refine Q.rg<|S.dd<|D.al z26 U U U λp4=>Q.nt<|Q.rg<|Q.mv U<|S.qu (Z.call U U (λ_=>hval _))<|S.dd<|D.al z26 U U U λp5=>S.s<|D.st 0 av U U U U U U U U λ_=>Q.nt<|S.sq<|Q.rg<|Q.fa bO U<|Q.lc 0 dF U U U<|S.qu (Z.fG bM U)<|Q.bi U U U<|Q.mv U<|?_
   refine S.tE 12 (λAr=>?_) (λAr=>?_)
   omega
   refine Q.on (Z.dA 0 av U U U)<|Q.on (Z.eq (Z.call U U (λ_=>BB _ hg.1 hg.2.1 _)) (by rw[hr]))<|?_
   refine Q.on (Z.not U)<|Q.pk U U<|Q.nt<|S.cT U U<|Q.rg<|S.qu (Z.bd [] iE U U U U U U)<|S.s<|D.st 1 av U U U U U U U U λ_=>Q.nt<|UW.ret<|UQ.ax<|S.bK (λhd=>aU (k:=1) hd U U U fV fZ)<|?_
   rfl
  |true=>
   rw[h1 (by simp[hz,hr])]
   have hm0:=Int.tmod_nonneg (vs.length:Int) hb0
   have hm1:=Int.tmod_lt_of_pos b (by omega:(0:Int)<(vs.length:Int))
   have hkg:=Cx vs (b.tmod (vs.length:Int)).toNat (by omega)
   refine aF (n:=28) (H0:=H) (I:=[]) Tryz.func82 (by kernel_rfl) U (by rw[Tryz.ntmps82];rfl) .nil<|?_
   refine Q.rg<|S.dd<|D.al z26 U U U λp4=>Q.nt<|Q.rg<|Q.mv U<|S.qu (Z.call U U (λ_=>hval _))<|S.dd<|D.al z26 U U U λp5=>S.s<|D.st 0 av U U U U U U U U λ_=>Q.nt<|S.sq<|Q.rg<|Q.fa bO U<|Q.lc 0 dF U U U<|S.qu (Z.fG bM U)<|Q.bi U U U<|Q.mv U<|?_
   refine S.tE 12 (λAr=>?_) (λAr=>?_)
   omega
   refine Q.on (Z.dA 0 av U U U)<|Q.on (Z.eq (Z.call U U (λ_=>BB _ hg.1 hg.2.1 _)) (by rw[hr]))<|?_
   refine Q.on (Z.not U)<|Q.pk U U<|Q.nt<|S.cF U U<|UW.skip<|UQ.then<|S.sq<|?_
   refine' UW.bG (by kernel_rfl) [0,1,0,4,0,16,48,124,255,511,1023] [some 18,some 19,some 20,some 21,some 22,some 23,some 24,some 25,some 26,some 27,none] [some (18,_),some (19,_),some (20,_),some (21,_),some (22,_),some (23,_),some (24,_),some (25,_),some (26,_),some (27,_),none] [10] [1,5,9] U (by decide) (by decide) (M.free (by decide) U U ?je (M.held (by decide) U U ?jf (M.free (by decide) U U ?jg (M.free (by decide) U U ?jh (M.free (by decide) U U ?ji (M.held (by decide) U U ?jK (M.free (by decide) U U ?mg (M.free (by decide) U U ?xP (M.free (by decide) U U ?xQ (M.held (by decide) U U ?xR (M.skip M.nil))))))))))) ?su
   case je=>(intro _;exact Z.fa bO rfl)
   case jf=>exact Z.di 0 dF rfl rfl rfl
   case jg=>(intro _;exact Z.mv rfl)
   case jh=>(intro _;exact Z.cv Tryz.underlying3 rfl (IntWalk.i64_in _ (by omega)) (by rw[Tryz.underlying5];rfl))
   case ji=>(intro _;exact Z.fa bO rfl)
   case jK=>exact Z.di 0 dF rfl rfl rfl
   case mg=>(intro _;exact Z.fG bM rfl)
   case xP=>(intro _;exact Z.bi (vr:=.int .i64 (b.tmod (vs.length:Int))) rfl rfl (by rw[hvl];exact if_neg (by omega)))
   case xQ=>(intro _;exact Z.ia bM rfl rfl (by omega) (by assumption) (by exact Y _))
   case xR=>exact Z.Gm av rfl (Y _)
   refine CH.df U U<|D.uq 1 av U U U U (by exact aA _) (Y _) U U λ_=>?_
   refine CH.nil<|?_
   simp only[app,bV]
   refine UQ.then<|UW.ret<|S.bK (λhd=>aU (k:=1) hd U U U fV (by rw[Y];exact fZ))<|?_
   rfl
theorem GK:∀a:List UInt8,Lib.compareBytes a a=0
 |[]=>rfl
 |a::l=>by
  rw[Lib.compareBytes,if_neg (by exact UInt8.lt_irrefl a),if_neg (by exact UInt8.lt_irrefl a),GK l]
theorem OU(a b:UInt8)(h1:¬a<b)(h2:¬b<a):a=b:=by
 apply UInt8.toNat_inj.1
 rw[UInt8.lt_iff_toNat_lt] at h1 h2
 omega
theorem L9:∀a b:List UInt8,Lib.compareBytes a b=0->a=b
 |[],[],_=>rfl
 |[],_::_,h=>by simp[Lib.compareBytes] at h
 |_::_,[],h=>by simp[Lib.compareBytes] at h
 |a::l,b::r,h=>by
  rw[Lib.compareBytes] at h
  split at h
  ·cases h
  ·split at h
   ·cases h
   ·rename_i h1 h2
    rw[OU a b h1 h2,L9 l r h]
theorem GL:∀a b:List UInt8,Lib.compareBytes b a= -Lib.compareBytes a b
 |[],[]=>rfl
 |[],_::_=>rfl
 |_::_,[]=>rfl
 |a::l,b::r=>by
  rw[Lib.compareBytes,Lib.compareBytes]
  by_cases h1:a<b
  ·have h2:¬b<a:=by rw[UInt8.lt_iff_toNat_lt] at h1⊢;omega
   rw[if_neg h2,if_pos h1,if_pos h1];rfl
  ·by_cases h2:b<a
   ·rw[if_pos h2,if_neg h1,if_pos h2]
   ·rw[if_neg h2,if_neg h1,if_neg h1,if_neg h2];exact GL l r
theorem EN:∀a b c:List UInt8,Lib.compareBytes a b<0->Lib.compareBytes b c<0->Lib.compareBytes a c<0
 |[],_,[],h1,h2=>by
  rename_i b
  cases b with
  |nil=>simp[Lib.compareBytes] at h1
  |cons x r=>simp[Lib.compareBytes] at h2
 |[],_,_::_,_,_=>by simp[Lib.compareBytes]
 |_::_,[],_,h1,_=>by simp[Lib.compareBytes] at h1
 |_::_,_::_,[],_,h2=>by simp[Lib.compareBytes] at h2
 |a::l,b::r,c::q,h1,h2=>by
  rw[Lib.compareBytes] at h1 h2⊢
  by_cases ab:a<b
  ·by_cases bc:b<c
   ·rw[if_pos (by rw[UInt8.lt_iff_toNat_lt] at*;omega)];decide
   ·rw[if_neg bc] at h2
    by_cases cb:c<b
    ·rw[if_pos cb] at h2;simp at h2
    ·have:=OU b c bc cb;subst this
     rw[if_pos ab];decide
  ·rw[if_neg ab] at h1
   by_cases ba:b<a
   ·rw[if_pos ba] at h1;simp at h1
   ·have:=OU a b ab ba;subst this
    rw[if_neg ba] at h1
    by_cases bc:a<c
    ·rw[if_pos bc];decide
    ·rw[if_neg bc] at h2⊢
     by_cases cb:c<a
     ·rw[if_pos cb] at h2;simp at h2
     ·rw[if_neg cb] at h2⊢;exact EN l r q h1 h2
theorem ve(a:ByteArray):dP a a=false:=by unfold dP Du;rw[GK];rfl
theorem yo{a b c:ByteArray}(h1:dP a b=true)(h2:dP b c=true):dP a c=true:=by
 unfold dP at*;exact decide_eq_true (EN _ _ _ (of_decide_eq_true h1) (of_decide_eq_true h2))
theorem Ut{a b:ByteArray}(h1:dP a b=false)(h2:a≠b):dP b a=true:=by
 unfold dP Du at*
 have h3:=of_decide_eq_false h1
 have h4:Lib.compareBytes a.data.toList b.data.toList≠0:=λh=>h2 (ByteArray.ext (Array.toList_inj.1 (L9 _ _ h)))
 exact decide_eq_true (by rw[GL];omega)
def Asc(ks:List ByteArray):Prop:=∀i j (hi:i<ks.length) (hj:j<ks.length),i<j->dP ks[i] ks[j]=true
theorem RB{ks:List ByteArray}(h:nC ks=true):Asc ks/\∀s∈ks,PX s<0:=by
 unfold nC at h
 rw[List.all_eq_true] at h
 have h1:∀i (hi:i<ks.length),PX ks[i]<0/\(0<i->dP (ks.getD (i-1) ⟨#[]⟩) ks[i]=true):=λi hi=>by
  have:=h i (List.mem_range.2 hi)
  unfold qj at this
  rw[getD_at hi,Bool.and_eq_true,Bool.or_eq_true] at this
  refine⟨of_decide_eq_true this.1,λh0=>?_⟩
  rcases this.2 with h2|h2
  ·have:=of_decide_eq_true h2;omega
  ·exact h2
 refine⟨λi j hi hj hij=>?_,λs hs=>by obtain⟨i,hi,rfl⟩:=List.getElem_of_mem hs;exact(h1 i hi).1⟩
 have step:∀d,∀j (hj:j<ks.length),j=i+1+d->dP ks[i] ks[j]=true:=by
  intro d
  induction d with
  |zero=>
   intro j hj e
   have:=(h1 j hj).2 (by omega)
   rw[getD_at (by omega)] at this
   have e2:j-1=i:=by omega
   simpa[e2] using this
  |succ d ih=>
   intro j hj e
   have h2:=(h1 j hj).2 (by omega)
   rw[getD_at (by omega)] at h2
   exact yo (ih (j-1) (by omega) (by omega)) h2
 exact step (j-i-1) j hj (by omega)
theorem RF{ks:List ByteArray}(h:Asc ks)(hc:∀s∈ks,PX s<0):nC ks=true:=by
 unfold nC
 rw[List.all_eq_true]
 intro i hi
 have hi:=List.mem_range.1 hi
 unfold qj
 rw[getD_at hi,decide_eq_true (hc _ (List.getElem_mem hi))]
 by_cases h0:i=0
 ·simp[h0]
 ·rw[getD_at (by omega)]
  have:=h (i-1) i (by omega) hi (by omega)
  unfold dP at this
  simp[this]
theorem JU{ks:List ByteArray}(h:Asc ks){i j:Nat}(hi:i<ks.length)(hj:j<ks.length)(e:ks[i]=ks[j]):i=j:=by
 rcases Nat.lt_trichotomy i j with h1|h1|h1
 ·have:=h i j hi hj h1;rw[e,ve] at this;cases this
 ·exact h1
 ·have:=h j i hj hi h1;rw[e,ve] at this;cases this
theorem yu{ks:List ByteArray}(h:Asc ks){i:Nat}(hi:i<ks.length):cz ks ks[i]=some i:=
 Ao hi (by simp) λj hj hji=>by
  by_cases e:ks[i].toList=ks[j].toList
  ·have:=JU h hj hi (fM e).symm;omega
  ·simpa using e
theorem EO{ks:List ByteArray}{s:ByteArray}(h:s∉ks):cz ks s=none:=by
 unfold cz
 rw[List.findIdx?_eq_none_iff]
 intro x hx
 by_cases e:s.toList=x.toList
 ·exact absurd (fM e▸hx) h
 ·simpa using e
theorem pF{ks:List ByteArray}{s:ByteArray}(h:cz ks s=none):s∉ks:=λhm=>by
 unfold cz at h
 rw[List.findIdx?_eq_none_iff] at h
 have:=h s hm
 simp at this
def qw:ByteArray:=⟨#[109,46,114,111,111,109,46,99,114,101,97,116,101]⟩
def zB:ByteArray:=⟨#[109,46,114,111,111,109,46,109,101,109,98,101,114]⟩
def EP:ByteArray:=⟨#[109,46,114,111,111,109,46,112,111,119,101,114,95,108,101,118,101,108,115]⟩
def ER:ByteArray:=⟨#[109,46,114,111,111,109,46,106,111,105,110,95,114,117,108,101,115]⟩
def Uu:ByteArray:=⟨#[109,46,114,111,111,109,46,115,101,114,118,101,114,95,97,99,108]⟩
def vg:ByteArray:=⟨#[109,101,109,98,101,114,115,104,105,112]⟩
def AZ:ByteArray:=⟨#[106,111,105,110,95,114,117,108,101]⟩
def ES:ByteArray:=⟨#[97,108,108,111,119]⟩
def Uv:ByteArray:=⟨#[100,101,110,121]⟩
def Uw:ByteArray:=⟨#[98,97,110,32,101,118,101,110,116,115,32,101,118,101,110,116,115,95,100,101,102,97,117,108,116,32,105,110,118,105,116,101,32,107,105,99,107,32,115,116,97,116,101,95,100,101,102,97,117,108,116,32,117,115,101,114,115,32,117,115,101,114,115,95,100,101,102,97,117,108,116]⟩
def rH:ByteArray:=⟨#[97,117,116,104,95,101,118,101,110,116,115,32,99,111,110,116,101,110,116,32,100,101,112,116,104,32,104,97,115,104,101,115,32,111,114,105,103,105,110,95,115,101,114,118,101,114,95,116,115,32,112,114,101,118,95,101,118,101,110,116,115,32,114,111,111,109,95,105,100,32,115,101,110,100,101,114,32,115,116,97,116,101,95,107,101,121,32,116,121,112,101]⟩
def A7:List ByteArray:=[⟨#[98,97,110]⟩,⟨#[101,118,101,110,116,115]⟩,⟨#[101,118,101,110,116,115,95,100,101,102,97,117,108,116]⟩,⟨#[105,110,118,105,116,101]⟩,⟨#[107,105,99,107]⟩,⟨#[115,116,97,116,101,95,100,101,102,97,117,108,116]⟩,⟨#[117,115,101,114,115]⟩,⟨#[117,115,101,114,115,95,100,101,102,97,117,108,116]⟩]
def dC:List ByteArray:=[⟨#[97,117,116,104,95,101,118,101,110,116,115]⟩,⟨#[99,111,110,116,101,110,116]⟩,⟨#[100,101,112,116,104]⟩,⟨#[104,97,115,104,101,115]⟩,⟨#[111,114,105,103,105,110,95,115,101,114,118,101,114,95,116,115]⟩,⟨#[112,114,101,118,95,101,118,101,110,116,115]⟩,⟨#[114,111,111,109,95,105,100]⟩,⟨#[115,101,110,100,101,114]⟩,⟨#[115,116,97,116,101,95,107,101,121]⟩,⟨#[116,121,112,101]⟩]
theorem GM:Ce Tryz.prog 176=some 23:=by kernel_rfl
theorem BM(s:ByteArray)(l:List ByteArray)(hs:s.size<1000)(ha:(s.data.toList.all λb=>b.toNat<128)=true)(hl:(Lib.fields s.data.toList).map (λl=>(⟨l.toArray⟩:ByteArray))=l)(h2:l.length<=1000)(H:Hp)(hG:gU H):au Tryz.prog 130 [.v (.string s)] H (bz H (strs l)):=by
 refine⟨⟨_,Tryz.func130,by kernel_rfl,by kernel_rfl⟩,λρ w vals hh hr=>?_⟩
 obtain⟨hvl,hr⟩:=hr
 match vals,hvl,hr with
 |[v],_,hr=>
  have e1:=aS (hr 0 _ _ U U)
  subst e1
  refine(Tryz.strings_Fields s w (by omega) (λj b hb=>by simpa using List.all_eq_true.1 ha b (List.mem_of_getElem? hb)) (hG.2.tab hh)).mono<|?_
  rintro e w' ⟨rfl,rfl⟩
  have hll:(Lib.fields s.data.toList).length=l.length:=by rw[<-hl,List.length_map]
  have hcells:(Lib.fields s.data.toList).map (λl=>Value.string ⟨l.toArray⟩)=l.map Value.string:=by rw[<-hl,List.map_map];rfl
  rw[hll,hcells]
  obtain⟨q1,q2⟩:=hh.below (ik w (.cells (l.map Value.string).toArray 9))
  have hnew:bF ρ H w.heap.size:=by
   rintro⟨id,ob,v,_,b,c⟩
   have:=hh.lt id v _ b c
   omega
  refine⟨_,ρ,strs l,H,rfl,q1,q2,?_,rfl,rfl⟩
  have:=dU.sl (ok:=bF ρ H) (ρ:=ρ) (w:=w.alloc (.cells (l.map Value.string).toArray 9)) (l.map encS) ⟨w.heap.size,0,none⟩ l.length 1 (λi j=> .string (l.getD i ⟨#[]⟩)) (by rw[List.length_map];exact Nat.le_refl _) (by simp only[maxLen];omega) (λ_=>⟨hnew,by rw[size_alloc];simp⟩) (jU l) (λi cs j hi hj=>?_) (λi cs j u hi hj=>?_)
  ·rw[List.length_map] at this;exact this
  ·have hc1:=jU l cs (List.mem_of_getElem? hi)
   have hj0:j=0:=by omega
   subst hj0
   have hil:i<l.length:=by have:=(List.getElem?_eq_some_iff.1 hi).1;rwa [List.length_map] at this
   rw[add_plain]
   refine⟨?_,rfl⟩
   simp only[World.cell?,heap_alloc_new]
   simp[hil]
  ·have hil:i<l.length:=by have:=(List.getElem?_eq_some_iff.1 hi).1;rwa [List.length_map] at this
   rw[List.getElem?_map,List.getElem?_eq_getElem hil] at hi
   cases hi
   have hj0:j=0:=by have:=(List.getElem?_eq_some_iff.1 hj).1;simpa[encS] using this
   subst hj0
   simp[encS] at hj
   subst hj
   simp[hil]
   exact .v _
theorem JV:(Lib.fields Uw.data.toList).map (λl=>(⟨l.toArray⟩:ByteArray))=A7:=by kernel_rfl
theorem JX:(Lib.fields rH.data.toList).map (λl=>(⟨l.toArray⟩:ByteArray))=dC:=by kernel_rfl
def hasB(l:List ByteArray)(s:ByteArray):Bool:=l.any λx=>s.toList==x.toList
theorem lJ{l:List ByteArray}{s:ByteArray}:hasB l s=true↔s∈l:=by
 unfold hasB
 rw[List.any_eq_true]
 constructor
 ·rintro⟨x,h1,h2⟩
  rw[fM (by simpa using h2:s.toList=x.toList)];exact h1
 ·intro h;exact⟨s,h,by simp⟩
theorem Ym(l:List ByteArray)(s:ByteArray):decide (oi (cz l s)>=0)=hasB l s:=by
 cases h:cz l s with
 |none=>
  have:=pF h
  rw[<-lJ] at this
  have h2:hasB l s=false:=by simpa using this
  rw[h2]
  rfl
 |some i=>
  unfold cz at h
  obtain⟨hi,h1,_⟩:=List.findIdx?_eq_some_iff_getElem.1 h
  have:hasB l s=true:=List.any_eq_true.2 ⟨l[i],List.getElem_mem hi,h1⟩
  rw[this]
  rfl
theorem mK(l:List ByteArray)(s:ByteArray)(hl:l.length<=1000000)(H:Hp):au Tryz.prog 97 [strs l,.v (.string s)] H (bz H (.v (.bool (hasB l s)))):=by
 have hi:=Ym l s
 unfold strs
 refine aF (n:=9) (H0:=H) (I:=[]) Tryz.func97 (by kernel_rfl) U (by rw[Tryz.ntmps97];rfl) .nil<|?_
 refine Q.rg<|Q.as U<|Q.nt<|Q.rg<|Q.mv U<|Q.mv U<|S.qu (Z.call U U (λ_=>index_spec l s hl _))<|Q.bi U U U<|Q.as U<|Q.nt<|UW.ret<|S.bK (λ_=>ak U U)<|?_
 focus (rw[<-hi];done)
theorem RG(l:List ByteArray)(s:ByteArray)(hl:l.length<=1000000)(H:Hp):au Tryz.prog 200 [strs l,.v (.string s)] H (bz H (.v (.bool (hasB l s)))):=by
 have wI:(l.map encS).length=l.length:=List.length_map ..
 unfold strs
 refine aF (n:=18) (H0:=H) (I:=[]) Tryz.func200 (by kernel_rfl) U (by rw[Tryz.ntmps200];rfl) .nil<|?_
 refine Q.rg<|Q.as U<|Q.nt<|S.sq<|Q.rg<|Q.as U<|Q.nt<|UW.block<|S.loop (λj:Nat=>[(5,.v (.int .i64 (j:Int))),(0,.sl (l.map encS)),(1,.v (.string s))]) (λ_=>[]) (λj=>j<=l.length/\hasB l s=hasB (l.drop j) s) (λj=>l.length-j) 0 ⟨Nat.zero_le _,rfl⟩ ⟨rfl,rfl,rfl,trivial⟩ (.refl _)<|?_
 rintro j ⟨hj,hJ⟩
 by_cases hlt:j<l.length
 ·have hg:=eD l j hlt
  have hd:hasB (l.drop j) s=((s.toList==l[j].toList)||hasB (l.drop (j+1)) s):=by
   rw[List.drop_eq_getElem_cons hlt];rfl
  focus
   refine S.sq<|Q.rg<|Q.mv U<|Q.mv U<|S.qu (Z.fG aY U)<|Q.bi U U U<|Q.nt<|S.cT U (decide_eq_true (by omega))<|UW.skip<|UQ.then<|S.sq<|UW.block<|Q.rg<|Q.mv U<|Q.mv U<|S.qu (Z.ia aY U U (by omega) (by assumption) (by rfl))<|?_
   refine S.qu (Z.fE ed U)<|Q.mv U<|S.qu (Z.bs U U U)<|Q.nt<|?_
   refine S.cE U (λhc17=>?_) (λhc17=>?_)
   refine Q.rg<|Q.as U<|Q.nt<|UW.ret<|UQ.aH<|UQ.ax<|UQ.ax<|UQ.aH<|UQ.ax<|S.bK (λ_=>ak U U)<|?_
   rotate_left
   refine UW.skip<|UQ.aB<|UQ.then<|S.rg<|Q.mv U<|S.qu (Z.add (r:=((j+1:Nat):Int)) U U (IntWalk.i64_in _ (by omega)))<|Q.as U<|US.nil<|?_
   refine S.back _ ⟨rfl,rfl,rfl,trivial⟩ (.refl _) ?_ (by omega)
   rotate_left
  ·rw[hJ,hd,show(s.toList==l[j].toList)=true from by simpa using hc17.symm];rfl
  ·exact⟨by omega,by rw[hJ,hd,show(s.toList==l[j].toList)=false from by simpa using Ne.symm hc17];rfl⟩
 ·refine S.sq<|Q.rg<|Q.mv U<|Q.mv U<|S.qu (Z.fG aY U)<|Q.bi U U U<|Q.nt<|S.cF U (decide_eq_false (by omega))<|UW.exit<|UQ.pass<|UQ.pass<|UQ.here<|UQ.then<|Q.rg<|Q.as U<|Q.nt<|UW.ret<|S.bK (λ_=>ak U U)<|?_
  rw[hJ,List.drop_eq_nil_of_le (by omega)];rfl
def Qe:List (ByteArray×AV):=[(zB,strs [vg]),(EP,strs A7),(ER,strs [AZ]),(Uu,strs [ES,Uv])]
def pG(kind:ByteArray):List ByteArray:=if kind=zB then[vg] else if kind=EP then A7 else if kind=ER then[AZ] else if kind=Uu then[ES,Uv] else[]
def fO(kind key:ByteArray):Bool:=kind.toList==qw.toList||hasB (pG kind) key
theorem RH(kind:ByteArray):(pG kind).length<=8:=by
 unfold pG
 (repeat' split)<;>decide
theorem OV(kind:ByteArray):kU Qe kind=some (strs (pG kind))\/(kU Qe kind=none/\pG kind=[]):=by
 unfold pG Qe
 simp only[kU]
 (repeat' split)<;>first|exact .inl U|exact .inr ⟨rfl,rfl⟩
theorem ET(H:Hp)(hG:gU H):au Tryz.prog 181 [] H (λu H'=>∃news,aM H news/\H'=aC H news/\∃id,u=.mpr id/\news=[(id,.mp Qe)]):=by
 refine aF (n:=7) (H0:=H) (I:=[]) Tryz.func181 (by kernel_rfl) U (by rw[Tryz.ntmps181];rfl) .nil<|?_
 refine Q.rg<|Q.as U<|Q.nt<|Q.rg<|S.dd<|D.mkm λp1=>S.qu (Z.bl dV U U (bA U))<|S.s<|D.ins 0 GM U U U U U U λ_=>S.qu (Z.fe U U (λ_ hS=>BM Uw A7 (by decide) (by decide) JV (by decide) _ (hG.mono hS)))<|S.s<|D.ins 0 GM U U U U U U λ_=>S.qu (Z.bl dV U U (bA U))<|S.s<|D.ins 0 GM U U U U U U λ_=>S.qu (Z.bl dV U U (bA U))<|S.s<|D.ins 0 GM U U U U U U λ_=>Q.mv U<|Q.as U<|Q.nt<|UW.ret<|?_
 exact bN [_] (λ_=>ak U U) (.refl _) λhd=>⟨_,hd,rfl,_,rfl,rfl⟩
theorem RI(kind key:ByteArray)(H:Hp)(hG:gU H):au Tryz.prog 134 [.v (.string kind),.v (.string key)] H (bz H (.v (.bool (fO kind key)))):=by
 have hl:=RH kind
 rcases OV kind with hk|⟨hk,hk2⟩
 ·refine aF (n:=14) (H0:=H) (I:=[]) Tryz.func134 (by kernel_rfl) U (by rw[Tryz.ntmps134];rfl) .nil<|?_
  refine Q.rg<|Q.as U<|Q.nt<|Q.rg<|Q.mv U<|S.qu (Z.bs U U U)<|Q.mv U<|?_
  refine S.tE 7 (λTH=>?_) (λTH=>?_)
  refine Q.of<|Q.of<|Q.of<|Q.of<|Q.of<|Q.pk U U<|Q.as U<|Q.nt<|UW.ret<|S.bK (λ_=>ak U U)<|?_
  focus (rw[fO,show(kind.toList==qw.toList)=true from kQ TH,Bool.true_or];done)
  refine S.dd<|D.on<|D.cne U U (λhd=>ET _ (hG.ext hd))<|?_
  rintro _ _ ⟨p8,rfl,rfl⟩
  refine Q.on (Z.mv U)<|Q.on (Z.lkm (u:=strs (pG kind)) 0 GM z23 U U U (congrArg (λo=>Option.getD o (.v (.slice none 0 0))) hk))<|Q.on (Z.mv U)<|Q.on (Z.call U U (λH=>mK (pG kind) key (by omega) H))<|Q.pk U U<|Q.as U<|Q.nt<|UW.ret<|S.bK (λ_=>ak U U)<|?_
  focus (rw[fO,show(kind.toList==qw.toList)=false from iy TH,Bool.false_or];done)
 ·refine aF (n:=14) (H0:=H) (I:=[]) Tryz.func134 (by kernel_rfl) U (by rw[Tryz.ntmps134];rfl) .nil<|?_
  refine Q.rg<|Q.as U<|Q.nt<|Q.rg<|Q.mv U<|S.qu (Z.bs U U U)<|Q.mv U<|?_
  refine S.tE 7 (λTH=>?_) (λTH=>?_)
  refine Q.of<|Q.of<|Q.of<|Q.of<|Q.of<|Q.pk U U<|Q.as U<|Q.nt<|UW.ret<|S.bK (λ_=>ak U U)<|?_
  focus (rw[fO,show(kind.toList==qw.toList)=true from kQ TH,Bool.true_or];done)
  refine S.dd<|D.on<|D.cne U U (λhd=>ET _ (hG.ext hd))<|?_
  rintro _ _ ⟨p8,rfl,rfl⟩
  refine Q.on (Z.mv U)<|Q.on (Z.lkm (u:=.v (.slice none 0 0)) 0 GM z23 U U U (congrArg (λo=>Option.getD o (.v (.slice none 0 0))) hk))<|US.slot 10 U (bL.nil _)<|Q.on (Z.mv U)<|Q.on (Z.call U U (λH=>mK [] key (by decide) H))<|Q.pk U U<|Q.as U<|Q.nt<|UW.ret<|S.bK (λ_=>ak U U)<|?_
  focus ((rw[fO,show(kind.toList==qw.toList)=false from iy TH,Bool.false_or,hk2]);done)
theorem Ma(a s:ByteArray):hasB [a] s=(s.toList==a.toList):=by show(_||false)=_;rw[Bool.or_false]
theorem Mc(a b s:ByteArray):hasB [a,b] s=(s.toList==a.toList||s.toList==b.toList):=by show(_||(_||false))=_;rw[Bool.or_false]
theorem JY{kind:ByteArray}(h:kind.toList=qw.toList)(key:ByteArray):fO kind key=true:=by rw[fO,kQ h,Bool.true_or]
theorem kV{kind:ByteArray}(h:¬kind.toList=qw.toList)(key:ByteArray):fO kind key=hasB (pG kind) key:=by rw[fO,iy h,Bool.false_or]
theorem Yn{kind:ByteArray}(h:kind.toList=zB.toList):pG kind=[vg]:=by rw[fM h];kernel_rfl
theorem Yo{kind:ByteArray}(h:kind.toList=EP.toList):pG kind=A7:=by rw[fM h];kernel_rfl
theorem Yp{kind:ByteArray}(h:kind.toList=ER.toList):pG kind=[AZ]:=by rw[fM h];kernel_rfl
theorem Qf{kind:ByteArray}(h:kind.toList=Uu.toList):pG kind=[ES,Uv]:=by rw[fM h];kernel_rfl
theorem Yq{kind:ByteArray}(h1:¬kind.toList=zB.toList)(h2:¬kind.toList=EP.toList)(h3:¬kind.toList=ER.toList)(h4:¬kind.toList=Uu.toList):pG kind=[]:=by
 unfold pG
 rw[if_neg (λh=>h1 (by rw[h])),if_neg (λh=>h2 (by rw[h])),if_neg (λh=>h3 (by rw[h])),if_neg (λh=>h4 (by rw[h]))]
theorem OW(kind key:ByteArray)(H:Hp):au Tryz.prog 174 [.v (.string kind),.v (.string key)] H (bz H (.v (.bool (fO kind key)))):=by
 refine aF (n:=29) (H0:=H) (I:=[]) Tryz.func174 (by kernel_rfl) U (by rw[Tryz.ntmps174];rfl) .nil<|?_
 focus
  refine Q.rg<|Q.as U<|Q.nt<|S.sq<|Q.rg<|Q.mv U<|Q.nt<|UW.block<|Q.rg<|S.qu (Z.bs U U U)<|Q.as U<|Q.nt<|?_
  refine S.cE U (λhc6=>?_) (λhc6=>?_)
  refine Q.rg<|Q.as U<|Q.nt<|UW.ret<|UQ.aH<|UQ.ax<|S.bK (λ_=>ak U U)<|?_
  rotate_left
  refine Q.rg<|S.qu (Z.bs U U U)<|Q.as U<|Q.nt<|?_
  refine S.cE U (λhc8=>?_) (λhc8=>?_)
  refine Q.rg<|Q.mv U<|S.qu (Z.bs U U U)<|Q.as U<|Q.nt<|UW.ret<|UQ.aH<|UQ.ax<|S.bK (λ_=>ak U U)<|?_
  rotate_left
  refine Q.rg<|S.qu (Z.bs U U U)<|Q.as U<|Q.nt<|?_
  refine S.cE U (λAr=>?_) (λAr=>?_)
  refine Q.rg<|S.qu (Z.bl dV U U (bA U))<|Q.mv U<|S.qu (Z.call U U (λH=>RG A7 key (by decide) H))<|Q.as U<|Q.nt<|UW.ret<|UQ.aH<|UQ.ax<|S.bK (λ_=>ak U U)<|?_
  rotate_left
  refine Q.rg<|S.qu (Z.bs U U U)<|Q.as U<|Q.nt<|?_
  refine S.cE U (λhc17=>?_) (λhc17=>?_)
  refine Q.rg<|Q.mv U<|S.qu (Z.bs U U U)<|Q.as U<|Q.nt<|UW.ret<|UQ.aH<|UQ.ax<|S.bK (λ_=>ak U U)<|?_
  rotate_left
  refine Q.rg<|S.qu (Z.bs U U U)<|Q.as U<|Q.nt<|?_
  refine S.cE U (λhc21=>?_) (λhc21=>?_)
  refine Q.rg<|Q.mv U<|S.qu (Z.bs U U U)<|Q.mv U<|?_
  refine S.tE 25 (λhc25=>?_) (λhc25=>?_)
  refine Q.of<|Q.of<|Q.pk U U<|Q.as U<|Q.nt<|UW.ret<|UQ.aH<|UQ.ax<|S.bK (λ_=>ak U U)<|?_
  rotate_left
  refine Q.on (Z.mv U)<|Q.on (Z.bs U U U)<|Q.pk U U<|Q.as U<|Q.nt<|UW.ret<|UQ.aH<|UQ.ax<|S.bK (λ_=>ak U U)<|?_
  rotate_left
  refine UW.skip<|UQ.aB<|UQ.then<|Q.rg<|Q.as U<|Q.nt<|UW.ret<|S.bK (λ_=>ak U U)<|?_
  rotate_left
 ·rw[JY hc6]
 ·rw[kV hc6,Yn hc8,Ma];rfl
 ·rw[kV hc6,Yo Ar]
 ·rw[kV hc6,Yp hc17,Ma];rfl
 ·rw[kV hc6,Qf hc21,Mc,kQ (show key.toList=ES.toList from hc25),Bool.true_or]
 ·rw[kV hc6,Qf hc21,Mc,iy (show ¬key.toList=ES.toList from hc25),Bool.false_or];rfl
 ·rw[kV hc6,Yq hc8 Ar hc17 hc21];rfl
end Go.Proofs.YtonpfomjoiaacaaGreatDoor
end
