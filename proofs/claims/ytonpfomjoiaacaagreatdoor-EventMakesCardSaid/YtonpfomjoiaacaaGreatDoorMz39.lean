/- A part of the proof. -/
import Derived.Test.YtonpfomjoiaacaaGreatDoorMz36
import Derived.Test.YtonpfomjoiaacaaGreatDoorMz38
import Derived.Test.YtonpfomjoiaacaaGreatDoorMz18
import Derived.Test.YtonpfomjoiaacaaGreatDoorMz35
import Derived.Test.YtonpfomjoiaacaaGreatDoorMz14
import Derived.Test.YtonpfomjoiaacaaGreatDoorMz20
import Derived.Test.YtonpfomjoiaacaaGreatDoorMz25
import Derived.Test.YtonpfomjoiaacaaGreatDoorMz21
import Derived.Test.YtonpfomjoiaacaaGreatDoorMz24
import Derived.Test.YtonpfomjoiaacaaGreatDoorMz37
set_option maxRecDepth 100000
set_option maxHeartbeats 4000000
set_option linter.unusedSectionVars false
set_option linter.unusedVariables false
set_option linter.unusedSimpArgs false
section
namespace Go.Proofs.YtonpfomjoiaacaaGreatDoor
open Go Go.fT Go.RowKit
def bq:ByteArray:=⟨#[104,97,115,104,101,115]⟩
def ic:ByteArray:=⟨#[117,110,115,105,103,110,101,100]⟩
def fQ:ByteArray:=⟨#[115,104,97,50,53,54]⟩
def bytesOf(s:ByteArray):List Int:=s.data.toList.map λb=>(b.toNat:Int)
theorem qx(s:ByteArray):(bytesOf s).length=s.size:=by unfold bytesOf;rw[List.length_map];rfl
theorem tK(s:ByteArray):eO (bytesOf s):=by
 intro c hc
 obtain⟨b,_,rfl⟩:=List.mem_map.1 hc
 have:=b.toNat_lt
 omega
theorem tL(s:ByteArray):bJ s=bf (bytesOf s):=by unfold bJ bf bytesOf;rw[List.map_map];rfl
theorem mD(k n:Int)(t:ByteArray):Fits (.mk k n t [] []):=.mk _ _ _ _ _ (Nat.zero_le _) (Nat.zero_le _) (λx h=>by cases h)
theorem jY(s:ByteArray):Fits (cK s):=mD _ _ _
theorem ry{x:V}(hx:Fits x)(key:ByteArray):Fits (bC x key):=by
 unfold bC
 split
 ·rename_i i hp
  cases hx with
  |mk k n t ks vs h1 h2 h3=>
   refine .mk _ _ _ _ _ ?_ ?_ (λy hy=>?_)
   ·unfold cutAt cutV;simp[yC,yD];omega
   ·unfold cutAt cutV;simp[yC,yD];omega
   ·unfold cutAt cutV at hy
    rcases List.mem_append.1 hy with h|h
    ·exact h3 _ (List.mem_of_mem_take (List.mem_of_mem_take h))
    ·exact h3 _ (List.mem_of_mem_take (List.mem_of_mem_drop h))
 ·exact hx
def eZ(x:V):V:=bC (bC x bq) ic
def gX(x:V):ByteArray:=dB (pV (bytesOf (aO (eZ x))))
theorem Cz{x:V}(h:Pr x):(aO x).size<=1000000000:=Nat.le_trans (vv h.num) h.wt
theorem UB(x:V)(hx:Fits x)(hp:Pr (eZ x))(H:Hp)(hG:gU H)(hN:AP H):au Tryz.prog 105 [.agg (aD x)] H (bz H (.v (.string (gX x)))):=by
 have hf1:=ry hx bq
 have hf2:Fits (eZ x):=ry hf1 ic
 have hsz:=Cz hp
 have hbl:=qx (aO (eZ x))
 have hbo:=tK (aO (eZ x))
 have hsl:=pq (bytesOf (aO (eZ x)))
 have hso:=Cu (bytesOf (aO (eZ x)))
 have hw1:∀H,au Tryz.prog 148 [.agg (aD x),.v (.string bq)] H (bz H (.agg (aD (bC x bq)))):=λH=>yV x hx bq H
 have hw2:∀H,au Tryz.prog 148 [.agg (aD (bC x bq)),.v (.string ic)] H (bz H (.agg (aD (eZ x)))):=λH=>yV _ hf1 ic H
 have hpr:∀H,gU H->au Tryz.prog 66 [.agg (aD (eZ x))] H (bz H (.v (.string (aO (eZ x))))):=λH h=>tJ (eZ x) hf2 hp H h
 unfold gX
 generalize bC x bq=w1 at*
 generalize eZ x=w2 at*
 generalize aO w2=pt at*
 obtain⟨k,n,t,ks,vs⟩:=x
 refine aF (n:=12) (H0:=H) (I:=[]) Tryz.func105 (by kernel_rfl) U (by rw[Tryz.ntmps105];rfl) .nil<|?_
 refine Q.rg<|S.dd<|D.box U U U λp1=>Q.as U<|Q.nt<|Q.rg<|S.qu (Z.dA 0 av U U U)<|S.qu (Z.call U U (λH=>hw1 H))<|S.qu (Z.call U U (λH=>hw2 H))<|S.qu (Z.fe U U (λ_ hS=>hpr _ (hG.mono hS)))<|Q.as U<|Q.nt<|Q.rg<|Q.mv U<|S.qu (Z.eq (u':=.sl (bf (bytesOf pt))) (Z.s2b Tryz.underlying9 Tryz.underlying22 (by rfl) U (by omega)) (by rw[tL]))<|?_
 refine S.qu (Z.nK U U (λhd=>LU (bytesOf pt) (by omega) hbo _ (hN.ext U)))<|S.qu (Z.nK U U (λhd=>EJ (pV (bytesOf pt)) (by omega) (by omega) hso _ (hN.ext U)))<|Q.as U<|Q.nt<|UW.ret<|S.bK (λ_=>ak U U)<|?_
 rfl
theorem GY(x:V)(hx:Fits x)(hp:Pr (eZ x))(H:Hp)(hG:gU H):au Tryz.prog 105 [.agg (aD x)] H (bz H (.v (.string (gX x)))):=
 au.ZA hG.raw (UB x hx hp _ hG.low (AP.raw hG.raw)) U
def nO(h:ByteArray):V:=bH zeroV fQ (cK h)
def kD(x:V):V:=bH x bq (nO (gX x))
def kE(x:V):Bool:=gp (aI (aI x bq).1 fQ).1 (cK (gX x))
theorem E8(h:ByteArray):Fits (nO h):=by
 have hw:=sW zeroV fQ (cK h)
 have e:nO h=.mk 5 0 ⟨#[]⟩ [fQ] [cK h]:=rfl
 rw[e]
 exact .mk _ _ _ _ _ (by show 1<=1000000;decide) (by show 1<=1000000;decide) (λy hy=>by rw[List.mem_singleton.1 hy];exact jY h)
theorem Mk(x:V)(hx:Fits x)(hp:Pr (eZ x))(H:Hp)(hG:gU H):au Tryz.prog 78 [.agg (aD x)] H (bz H (.agg (aD (kD x)))):=by
 have hh:∀H,gU H->au Tryz.prog 105 [.agg (aD x)] H (bz H (.v (.string (gX x)))):=λH h=>GY x hx hp H h
 have hw1:∀H,au Tryz.prog 77 [.agg (aD zeroV),.v (.string fQ),.agg (aD (cK (gX x)))] H (bz H (.agg (aD (nO (gX x))))):=λH=>vX zeroV mq fQ _ (jY _) H
 have hw2:∀H,au Tryz.prog 77 [.agg (aD x),.v (.string bq),.agg (aD (nO (gX x)))] H (bz H (.agg (aD (kD x)))):=λH=>vX x hx bq _ (E8 _) H
 generalize kD x=sx at*
 generalize gX x=h at*
 generalize nO h=sh at*
 obtain⟨k,n,t,ks,vs⟩:=x
 refine aF (n:=10) (H0:=H) (I:=[]) Tryz.func78 (by kernel_rfl) U (by rw[Tryz.ntmps78];rfl) .nil<|?_
 refine Q.rg<|S.dd<|D.box U U U λp1=>S.dd<|D.al z26 U U U λp2=>Q.nt<|S.sq<|?_
 refine' UW.bG (by kernel_rfl) [0,0,0,4,12,30,63,127] [some 3,some 4,some 5,some 6,some 7,some 8,some 9,none] [some (3,_),some (4,_),some (5,_),some (6,_),some (7,_),some (8,_),some (9,_),none] [7] [0,2] U (by decide) (by decide) (M.held (by decide) U U ?iX (M.free (by decide) U U ?iY (M.held (by decide) U U ?iZ (M.free (by decide) U U ?ja (M.free (by decide) U U ?jb (M.free (by decide) U U ?jc (M.free (by decide) U U ?jd (M.skip M.nil)))))))) ?sj
 case iX=>exact Z.dA 1 av rfl rfl rfl
 case iY=>(intro _;exact Z.bd [] iE rfl rfl rfl rfl rfl rfl)
 case iZ=>exact Z.dA 1 av rfl rfl rfl
 case ja=>(intro _;exact Z.fe rfl rfl (λ_ hS=>hh _ (hG.mono hS)))
 case jb=>(intro _;exact Z.call rfl rfl (λH=>o5 h H))
 case jc=>(intro _;exact Z.call rfl rfl (λH=>hw1 H))
 case jd=>(intro _;exact Z.call rfl rfl (λH=>hw2 H))
 refine CH.df U U<|D.uq 0 av U U U U (by exact aA _) (Y _) U U λ_=>?_
 refine CH.nil<|?_
 simp only[app,bV]
 refine UQ.then<|UW.ret<|S.bK (λhd=>aU (k:=0) hd U U U fV (by rw[Y];exact fZ))<|?_
 rfl
theorem Ml(x:V)(hx:Fits x)(hp:Pr (eZ x))(H:Hp)(hG:gU H):au Tryz.prog 67 [.agg (aD x)] H (bz H (.v (.bool (kE x)))):=by
 have hf1:=lK hx bq
 have hf2:=lK hf1 fQ
 have hh:∀H,gU H->au Tryz.prog 105 [.agg (aD x)] H (bz H (.v (.string (gX x)))):=λH h=>GY x hx hp H h
 have hg1:∀H,au Tryz.prog 63 [.agg (aD x),.v (.string bq)] H (bz H (.kM [.agg (aD (aI x bq).1),.v (.bool (aI x bq).2)])):=λH=>qR x hx bq H
 have hg2:∀H,au Tryz.prog 63 [.agg (aD (aI x bq).1),.v (.string fQ)] H (bz H (.kM [.agg (aD (aI (aI x bq).1 fQ).1),.v (.bool (aI (aI x bq).1 fQ).2)])):=λH=>qR _ hf1 fQ H
 have hsm:∀H,au Tryz.prog 81 [.agg (aD (aI (aI x bq).1 fQ).1),.agg (aD (cK (gX x)))] H (bz H (.v (.bool (kE x)))):=λH=>Gt _ hf2 _ H
 generalize kE x=b at*
 generalize gX x=h at*
 generalize (aI (aI x bq).1 fQ).2=b2 at*
 generalize (aI (aI x bq).1 fQ).1=y2 at*
 generalize (aI x bq).2=b1 at*
 generalize (aI x bq).1=y1 at*
 obtain⟨k,n,t,ks,vs⟩:=x
 obtain⟨k1,n1,t1,ks1,vs1⟩:=y1
 obtain⟨k2,n2,t2,ks2,vs2⟩:=y2
 refine aF (n:=22) (H0:=H) (I:=[]) Tryz.func67 (by kernel_rfl) U (by rw[Tryz.ntmps67];rfl) .nil<|?_
 refine Q.rg<|S.dd<|D.box U U U λp1=>Q.as U<|Q.nt<|Q.rg<|S.qu (Z.dA 0 av U U U)<|S.qu (Z.call U U (λH=>hg1 H))<|Q.mv U<|S.qu (Z.ex U U)<|S.qu (Z.ex U U)<|S.dd<|D.al z26 U U U λp3=>S.s<|D.st 0 av U U U U U U U U λ_=>Q.as U<|Q.nt<|Q.rg<|S.qu (Z.dA 0 av U U U)<|S.qu (Z.call U U (λH=>hg2 H))<|Q.mv U<|S.qu (Z.ex U U)<|S.qu (Z.ex U U)<|S.dd<|D.al z26 U U U λp5=>S.s<|D.st 0 av U U U U U U U U λ_=>Q.as U<|Q.nt<|S.sq<|?_
 refine' UW.bG (by kernel_rfl) [0,0,2,6,15,31] [some 17,some 18,some 19,some 20,some 21,some 2] [some (17,_),some (18,_),some (19,_),some (20,_),some (21,_),some (2,_)] [] [0,1] U (by decide) (by decide) (M.held (by decide) U U ?je (M.held (by decide) U U ?jf (M.free (by decide) U U ?jg (M.free (by decide) U U ?jh (M.free (by decide) U U ?ji (M.free (by decide) U U ?jK M.nil)))))) ?su
 case je=>exact Z.dA 0 av rfl rfl rfl
 case jf=>exact Z.dA 2 av rfl rfl rfl
 case jg=>(intro _;exact Z.fe rfl rfl (λ_ hS=>hh _ (hG.mono hS)))
 case jh=>(intro _;exact Z.call rfl rfl (λH=>o5 h H))
 case ji=>(intro _;exact Z.call rfl rfl (λH=>hsm H))
 case jK=>(intro _;exact Z.as rfl)
 refine CH.nil<|?_
 simp only[app,bV]
 refine UQ.then<|UW.ret<|S.bK (λ_=>ak U U)<|?_
 rfl
theorem Mm(a:ByteArray):r9 a a=true:=by unfold r9;simp
theorem GZ{α:Type}{f:α->α->Bool}(l:List α)(h:∀a∈l,f a a=true):kX f l l=true:=
 l9 U λi h1 _=>h _ (List.getElem_mem h1)
theorem Bf(x:V)(hx:Fits x):gp x x=true:=by
 induction hx with
 |mk k n t ks vs h1 h2 h ih=>
 rw[gp,oq,GZ _ ih,GZ _ (λa _=>Mm a),Mm]
 simp
theorem Ev.jO{x:V}{N:Nat}(h:Ev x N)(key:ByteArray)(y:V):aI (bH x key y) key=(y,true):=by
 obtain⟨k,n,t,ks,vs⟩:=x
 have h1:k=5:=h.k
 subst h1
 exact Go.Proofs.YtonpfomjoiaacaaGreatDoor.jO h.len h.GR key y
theorem rA:∀a b:List V,dW (a++b)=dW a+dW b
 |[],b=>by show dW b=0+dW b;omega
 |x::r,b=>by
  have:=rA r b
  show dW (x::(r++b))=_
  rw[dW,dW,this];omega
theorem pJ(l:List V)(n:Nat):dW (l.take n)+dW (l.drop n)=dW l:=by rw[<-rA,List.take_append_drop]
theorem Mo:∀(l:List V) (i:Nat) (y:V),dW (l.set i y)<=dW l+rq y+1
 |[],i,y=>by show dW []<=_;omega
 |x::r,0,y=>by show dW (y::r)<=_;rw[dW,dW];omega
 |x::r,i+1,y=>by have:=Mo r i y;show dW (x::r.set i y)<=_;rw[dW,dW];omega
theorem CB:∀a b:List ByteArray,tH (a++b)=tH a+tH b
 |[],b=>by show tH b=0+tH b;omega
 |x::r,b=>by
  have:=CB r b
  show tH (x::(r++b))=_
  rw[tH,tH,this];omega
theorem wC(l:List ByteArray)(n:Nat):tH (l.take n)+tH (l.drop n)=tH l:=by rw[<-CB,List.take_append_drop]
theorem E9(x:V):rq x=30+6*x.t.size+tH x.ks+dW x.vs:=by obtain⟨k,n,t,ks,vs⟩:=x;exact jB ..
theorem wt_obj(x:V):rq (eP x)<=rq x:=by
 unfold eP
 split
 ·omega
 ·rw[jB,E9 x];show 30+6*0+0+0<=_;omega
theorem UC(x:V):rq (cutV x)<=rq x:=by
 unfold cutV
 rw[jB,E9 x]
 have h1:=wC x.ks (min x.ks.length x.vs.length)
 have h2:=pJ x.vs (min x.ks.length x.vs.length)
 omega
theorem Yy(l:List ByteArray)(i:Nat)(s:ByteArray):tH (dO l i s)=tH l+6*s.size+4:=by
 unfold dO
 have:=wC l i
 rw[CB,tH];omega
theorem UD(l:List V)(i:Nat)(y:V):dW (dO l i y)=dW l+rq y+1:=by
 unfold dO
 have:=pJ l i
 rw[rA,dW];omega
theorem Yz(x:V)(key:ByteArray)(y:V):rq (bH x key y)<=rq x+6*key.size+rq y+5:=by
 have h1:=wt_obj x
 have h2:=UC (eP x)
 rw[E9 (cutV (eP x))] at h2
 have h3:(cutV (eP x)).t=(eP x).t:=rfl
 rw[h3] at h2
 unfold bH
 split
 ·rename_i i _
  rw[jB]
  have:=Mo (cutV (eP x)).vs i y
  omega
 ·rw[jB,Yy,UD]
  omega
theorem O3(x:V)(key:ByteArray):rq (bC x key)<=rq x:=by
 unfold bC
 split
 ·rename_i i _
  have h2:=UC x
  rw[E9 (cutV x)] at h2
  have h3:(cutV x).t=x.t:=rfl
  rw[h3] at h2
  rw[jB]
  unfold cutAt
  rw[CB,rA]
  have h4:=wC (cutV x).ks i
  have h5:=pJ (cutV x).vs i
  have h6:tH ((cutV x).ks.drop (i+1))<=tH ((cutV x).ks.drop i):=by
   have:=wC ((cutV x).ks.drop i) 1
   rw[List.drop_drop] at this;omega
  have h7:dW ((cutV x).vs.drop (i+1))<=dW ((cutV x).vs.drop i):=by
   have:=pJ ((cutV x).vs.drop i) 1
   rw[List.drop_drop] at this;omega
  omega
 ·omega
theorem ky.n0{x:V}(h:ky x): -9223372036854775808<=x.n/\x.n<=9223372036854775807:=by cases h with|mk k n t ks vs h0 h1 h=>exact⟨h0,h1⟩
theorem ky.kid{x:V}(h:ky x){v:V}(hv:v∈x.vs):ky v:=by cases h with|mk k n t ks vs h0 h1 h=>exact h v hv
theorem tN{k n:Int}{t:ByteArray}{ks:List ByteArray}{vs:List V}(h: -9223372036854775808<=n/\n<=9223372036854775807)(hv:∀x∈vs,ky x):ky (.mk k n t ks vs):=.mk _ _ _ _ _ h.1 h.2 hv
theorem YA{x:V}(h:ky x):ky (eP x):=by
 unfold eP
 split
 ·exact h
 ·exact tN (by decide) (λx hx=>by cases hx)
theorem UE{x:V}{y:V}(hx:ky x)(hy:ky y)(key:ByteArray):ky (bH x key y):=by
 have h1:=YA hx
 have e:(bH x key y).n=(eP x).n:=by unfold bH;split<;>rfl
 have h2:ky (.mk (bH x key y).k (bH x key y).n (bH x key y).t (bH x key y).ks (bH x key y).vs):=tN (by rw[e];exact h1.n0) (λv hv=>(sV hv).elim (λh=>h1.kid h) (λh=>h▸hy))
 generalize bH x key y=w at h2
 obtain⟨k,n,t,ks,vs⟩:=w
 exact h2
theorem Mq{x:V}(hx:ky x)(key:ByteArray):ky (bC x key):=by
 unfold bC
 split
 ·refine tN hx.n0 (λv hv=>hx.kid ?_)
  rcases List.mem_append.1 hv with h|h
  ·exact List.mem_of_mem_take (List.mem_of_mem_take h)
  ·exact List.mem_of_mem_take (List.mem_of_mem_drop h)
 ·exact hx
structure Wt(N:Nat)(x:V):Prop where
 num:ky x
 wt:rq x<=N
theorem Wt.up{N ah:Nat}{x:V}(h:Wt N x)(hm:N<=ah):Wt ah x:=⟨h.num,by have:=h.wt;omega⟩
theorem Wt.with{N ah:Nat}{x y:V}(hx:Wt N x)(hy:Wt ah y){key:ByteArray}{K:Nat}(hk:key.size<=K):Wt (N+ah+6*K+5) (bH x key y):=
 ⟨UE hx.num hy.num key,by have:=Yz x key y;have:=hx.wt;have:=hy.wt;omega⟩
theorem Wt.without{N:Nat}{x:V}(hx:Wt N x)(key:ByteArray):Wt N (bC x key):=⟨Mq hx.num key,by have:=O3 x key;have:=hx.wt;omega⟩
theorem Wt.leaf{k n:Int}{t:ByteArray}{N:Nat}(h: -9223372036854775808<=n/\n<=9223372036854775807)(ht:30+6*t.size<=N):Wt N (.mk k n t [] []):=
 ⟨tN h (λx hx=>by cases hx),by rw[jB];show 30+6*t.size+0+0<=_;omega⟩
theorem Wt.str{t:ByteArray}{N:Nat}(ht:30+6*t.size<=N):Wt N (cK t):=.leaf (by decide) ht
theorem Wt.get{N:Nat}{x:V}(h:Wt N x)(hN:30<=N)(key:ByteArray):Wt N (aI x key).1:=by
 have hz:Wt N zeroV:=.leaf (by decide) (by show 30+6*0<=N;omega)
 have hm:(aI x key).1=zeroV\/(aI x key).1∈x.vs:=by
  unfold aI
  split
  ·rename_i i _
   by_cases hi:i<x.vs.length
   ·exact .inr (eY hi)
   ·refine .inl ?_
    simp only[List.getD,List.getElem?_eq_none (Nat.le_of_not_lt hi)];rfl
  ·exact .inl U
 rcases hm with h1|h1
 ·rw[h1];exact hz
 ·refine⟨h.num.kid h1,?_⟩
  have h2:=zH h1
  have h3:=h.wt
  rw[E9 x] at h3
  omega
theorem UF:∀s∈ym,s.size<=10:=by decide
theorem YB(i:Nat):(ym.getD i ⟨#[]⟩).size<=10:=by
 by_cases hi:i<ym.length
 ·exact UF _ (eY hi)
 ·simp only[List.getD,List.getElem?_eq_none (Nat.le_of_not_lt hi)];decide
theorem Ql(b1:Int)(kids:List V)(hk:∀x∈kids,ky x):∀q,q<=kids.length->Wt (30+70*q+dW (kids.take q)) (nD b1 kids q)
 |0,_=> .leaf (by decide) (by show 30+6*0<=_;omega)
 |q+1,hq=>by
  have ih:=Ql b1 kids hk q (by omega)
  have hy:Wt (rq (kids.getD q zeroV)) (kids.getD q zeroV):=⟨hk _ (eY (by omega)),Nat.le_refl _⟩
  refine(ih.with hy (YB (Cg b1 q))).up ?_
  rw[List.take_add_one,List.getElem?_eq_getElem (by omega:q<kids.length),rA]
  have e:kids.getD q zeroV=kids[q]:=getD_at (by omega)
  rw[e]
  show _<=30+70*(q+1)+(dW (kids.take q)+dW [kids[q]])
  rw[dW,dW]
  omega
theorem swV_wt(b0 b1:Int)(hb0:0<=b1)(hb1:b1<=255)(t:ByteArray)(ht:t.size<=12)(l:List V)(hl:∀x∈l,ky x):ky (BL b0 b1 t l).2/\dW (l.take (BL b0 b1 t l).1)+rq (BL b0 b1 t l).2<=dW l+350:=by
 have hk:∀x∈cZ b1 l,ky x:=λx hx=>hl x (List.mem_of_mem_drop hx)
 have h4:(b1.tmod 4).toNat<4:=by have:=Int.tmod_lt_of_pos b1 (by decide:(0:Int)<4);omega
 have hkl:(cZ b1 l).length<=4:=by unfold cZ lI;rw[List.length_drop];omega
 have h20:=Int.tmod_nonneg 2 hb0
 have h21:=Int.tmod_lt_of_pos b1 (by decide:(0:Int)<2)
 have ha:dW (l.take l.length)=dW l:=by rw[List.take_length]
 have hs:dW (l.take (l.length-lI b1 l))+dW (cZ b1 l)=dW l:=pJ l _
 have leaf:∀(k n:Int) (u:ByteArray),-9223372036854775808<=n/\n<=9223372036854775807->u.size<=12->ky (.mk k n u [] [])/\dW (l.take l.length)+rq (.mk k n u [] [])<=dW l+350:=λk n u h1 h2=>by
  have h3:Wt (30+6*u.size) (.mk k n u [] []):=.leaf h1 (Nat.le_refl _)
  have:=h3.wt
  exact⟨h3.num,by omega⟩
 unfold BL
 repeat' split
 ·exact leaf _ _ _ (by omega) (by decide)
 ·exact leaf _ _ _ (by omega) (by decide)
 ·exact leaf _ _ _ (by omega) (by decide)
 ·exact leaf _ _ _ (by decide) (by decide)
 ·exact leaf _ _ _ (by decide) ht
 ·refine⟨tN (by decide) hk,?_⟩
  show dW (l.take (l.length-lI b1 l))+rq _<=_
  rw[jB]
  show _+(30+6*0+0+_)<=_
  omega
 ·have:=Ql b1 (cZ b1 l) hk (cZ b1 l).length (Nat.le_refl _)
  refine⟨this.num,?_⟩
  have h5:=this.wt
  rw[List.take_length] at h5
  show dW (l.take (l.length-lI b1 l))+rq (nD b1 (cZ b1 l) (cZ b1 l).length)<=_
  omega
 ·exact leaf _ _ _ (by decide) (by decide)
theorem mX{c:List Int}(hc:zh c)(i:Nat):0<=c.getD i 0/\c.getD i 0<=255:=by
 by_cases hi:i<c.length
 ·have:=hc _ (eY (z:=(0:Int)) hi);omega
 ·simp only[List.getD,List.getElem?_eq_none (Nat.le_of_not_lt hi)];decide
theorem O4(c:List Int)(n:Nat):(textOf ((c.take (min c.length (2*n+3))).drop (2*n))).size<=12:=by
 have:=sS ((c.take (min c.length (2*n+3))).drop (2*n)) (min ((c.take (min c.length (2*n+3))).drop (2*n)).length 40)
 have hl:((c.take (min c.length (2*n+3))).drop (2*n)).length<=3:=by rw[List.length_drop,List.length_take];omega
 unfold textOf
 omega
theorem Qm{c:List Int}(hc:zh c):∀n,(∀x∈nE c n,ky x)/\dW (nE c n)<=351*n
 |0=>⟨λx (hx:x∈([]:List V))=>absurd hx (List.not_mem_nil),Nat.zero_le _⟩
 |n+1=>by
  obtain⟨h1,h2⟩:=Qm hc n
  obtain⟨h3,h4⟩:=swV_wt (c.getD (2*n) 0) (c.getD (2*n+1) 0) (mX hc _).1 (mX hc _).2 (textOf ((c.take (min c.length (2*n+3))).drop (2*n))) (O4 c n) (nE c n) h1
  constructor
  ·intro x hx
   rcases List.mem_append.1 hx with h|h
   ·exact h1 x (List.mem_of_mem_take h)
   ·rw[List.mem_singleton.1 h];exact h3
  ·show dW (_++[_])<=_
   rw[rA,dW,dW]
   omega
theorem Mr{c:List Int}(hc:zh c)(b:Int)(hb:0<=b):Wt 10600 (pE c b):=by
 rcases AY c b hb with h|⟨h,_⟩
 ·rw[h];exact .leaf (by decide) (by decide)
 ·obtain⟨h1,h2⟩:=Qm hc (min (c.length/2) 30)
  have h3:=zH h
  have h4:(valOf c).vs=nE c (min (c.length/2) 30):=rfl
  rw[h4] at h3 h
  exact⟨h1 _ h,by omega⟩
theorem YC{c:List Int}(hc:zh c)(b:Int)(hb:0<=b):Wt 100000 (pE c b):=(Mr hc b hb).up (by decide)
end Go.Proofs.YtonpfomjoiaacaaGreatDoor
end
