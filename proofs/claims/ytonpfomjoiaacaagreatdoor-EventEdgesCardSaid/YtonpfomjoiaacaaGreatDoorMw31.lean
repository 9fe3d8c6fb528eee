/- A part of the proof. -/
import Derived.Test.YtonpfomjoiaacaaGreatDoorMw27
import Derived.Test.YtonpfomjoiaacaaGreatDoorMw29
import Derived.Test.YtonpfomjoiaacaaGreatDoorMw30
set_option maxRecDepth 100000
set_option maxHeartbeats 4000000
set_option linter.unusedSectionVars false
set_option linter.unusedVariables false
set_option linter.unusedSimpArgs false
section
namespace Go.Proofs.YtonpfomjoiaacaaGreatDoor
open Go Go.iG Go.RowKit
theorem tY:∀a b:List V,eP (a++b)=eP a+eP b
 |[],b=>by show eP b=0+eP b;omega
 |x::r,b=>by
  have:=tY r b
  show eP (x::(r++b))=_
  rw[eP,eP,this];omega
theorem qO(l:List V)(n:Nat):eP (l.take n)+eP (l.drop n)=eP l:=by rw[<-tY,List.take_append_drop]
theorem Oc:∀(l:List V) (i:Nat) (y:V),eP (l.set i y)<=eP l+tV y+1
 |[],i,y=>by show eP []<=_;omega
 |x::r,0,y=>by show eP (y::r)<=_;rw[eP,eP];omega
 |x::r,i+1,y=>by have:=Oc r i y;show eP (x::r.set i y)<=_;rw[eP,eP];omega
theorem Es:∀a b:List ByteArray,vg (a++b)=vg a+vg b
 |[],b=>by show vg b=0+vg b;omega
 |x::r,b=>by
  have:=Es r b
  show vg (x::(r++b))=_
  rw[vg,vg,this];omega
theorem yz(l:List ByteArray)(n:Nat):vg (l.take n)+vg (l.drop n)=vg l:=by rw[<-Es,List.take_append_drop]
theorem G6(x:V):tV x=30+6*x.t.size+vg x.ks+eP x.vs:=by obtain⟨k,n,t,ks,vs⟩:=x;exact j3 ..
theorem wt_obj(x:V):tV (fw x)<=tV x:=by
 unfold fw
 split
 ·omega
 ·rw[j3,G6 x];show 30+6*0+0+0<=_;omega
theorem Wo(x:V):tV (cutV x)<=tV x:=by
 unfold cutV
 rw[j3,G6 x]
 have h1:=yz x.ks (min x.ks.length x.vs.length)
 have h2:=qO x.vs (min x.ks.length x.vs.length)
 omega
theorem aai(l:List ByteArray)(i:Nat)(s:ByteArray):vg (eB l i s)=vg l+6*s.size+4:=by
 unfold eB
 have:=yz l i
 rw[Es,vg];omega
theorem Wp(l:List V)(i:Nat)(y:V):eP (eB l i y)=eP l+tV y+1:=by
 unfold eB
 have:=qO l i
 rw[tY,eP];omega
theorem aaj(x:V)(key:ByteArray)(y:V):tV (aQ x key y)<=tV x+6*key.size+tV y+5:=by
 have h1:=wt_obj x
 have h2:=Wo (fw x)
 rw[G6 (cutV (fw x))] at h2
 have h3:(cutV (fw x)).t=(fw x).t:=rfl
 rw[h3] at h2
 unfold aQ
 split
 ·rename_i i _
  rw[j3]
  have:=Oc (cutV (fw x)).vs i y
  omega
 ·rw[j3,aai,Wp]
  omega
theorem QP(x:V)(key:ByteArray):tV (bq x key)<=tV x:=by
 unfold bq
 split
 ·rename_i i _
  have h2:=Wo x
  rw[G6 (cutV x)] at h2
  have h3:(cutV x).t=x.t:=rfl
  rw[h3] at h2
  rw[j3]
  unfold cutAt
  rw[Es,tY]
  have h4:=yz (cutV x).ks i
  have h5:=qO (cutV x).vs i
  have h6:vg ((cutV x).ks.drop (i+1))<=vg ((cutV x).ks.drop i):=by
   have:=yz ((cutV x).ks.drop i) 1
   rw[List.drop_drop] at this;omega
  have h7:eP ((cutV x).vs.drop (i+1))<=eP ((cutV x).vs.drop i):=by
   have:=qO ((cutV x).vs.drop i) 1
   rw[List.drop_drop] at this;omega
  omega
 ·omega
theorem lG.n0{x:V}(h:lG x): -9223372036854775808<=x.n/\x.n<=9223372036854775807:=by cases h with|mk k n t ks vs h0 h1 h=>exact⟨h0,h1⟩
theorem lG.kid{x:V}(h:lG x){v:V}(hv:v∈x.vs):lG v:=by cases h with|mk k n t ks vs h0 h1 h=>exact h v hv
theorem vB{k n:Int}{t:ByteArray}{ks:List ByteArray}{vs:List V}(h: -9223372036854775808<=n/\n<=9223372036854775807)(hv:∀x∈vs,lG x):lG (.mk k n t ks vs):=.mk _ _ _ _ _ h.1 h.2 hv
theorem aak{x:V}(h:lG x):lG (fw x):=by
 unfold fw
 split
 ·exact h
 ·exact vB (by decide) (λx hx=>by cases hx)
theorem Wq{x:V}{y:V}(hx:lG x)(hy:lG y)(key:ByteArray):lG (aQ x key y):=by
 have h1:=aak hx
 have e:(aQ x key y).n=(fw x).n:=by unfold aQ;split<;>rfl
 have h2:lG (.mk (aQ x key y).k (aQ x key y).n (aQ x key y).t (aQ x key y).ks (aQ x key y).vs):=vB (by rw[e];exact h1.n0) (λv hv=>(uX hv).elim (λh=>h1.kid h) (λh=>h▸hy))
 generalize aQ x key y=w at h2
 obtain⟨k,n,t,ks,vs⟩:=w
 exact h2
theorem Od{x:V}(hx:lG x)(key:ByteArray):lG (bq x key):=by
 unfold bq
 split
 ·refine vB hx.n0 (λv hv=>hx.kid ?_)
  rcases List.mem_append.1 hv with h|h
  ·exact List.mem_of_mem_take (List.mem_of_mem_take h)
  ·exact List.mem_of_mem_take (List.mem_of_mem_drop h)
 ·exact hx
structure Wt(N:Nat)(x:V):Prop where
 num:lG x
 wt:tV x<=N
theorem Wt.up{N ah:Nat}{x:V}(h:Wt N x)(hm:N<=ah):Wt ah x:=⟨h.num,by have:=h.wt;omega⟩
theorem Wt.with{N ah:Nat}{x y:V}(hx:Wt N x)(hy:Wt ah y){key:ByteArray}{K:Nat}(hk:key.size<=K):Wt (N+ah+6*K+5) (aQ x key y):=
 ⟨Wq hx.num hy.num key,by have:=aaj x key y;have:=hx.wt;have:=hy.wt;omega⟩
theorem Wt.without{N:Nat}{x:V}(hx:Wt N x)(key:ByteArray):Wt N (bq x key):=⟨Od hx.num key,by have:=QP x key;have:=hx.wt;omega⟩
theorem Wt.leaf{k n:Int}{t:ByteArray}{N:Nat}(h: -9223372036854775808<=n/\n<=9223372036854775807)(ht:30+6*t.size<=N):Wt N (.mk k n t [] []):=
 ⟨vB h (λx hx=>by cases hx),by rw[j3];show 30+6*t.size+0+0<=_;omega⟩
theorem Wt.str{t:ByteArray}{N:Nat}(ht:30+6*t.size<=N):Wt N (dz t):=.leaf (by decide) ht
theorem Wt.get{N:Nat}{x:V}(h:Wt N x)(hN:30<=N)(key:ByteArray):Wt N (aH x key).1:=by
 have hz:Wt N zeroV:=.leaf (by decide) (by show 30+6*0<=N;omega)
 have hm:(aH x key).1=zeroV\/(aH x key).1∈x.vs:=by
  unfold aH
  split
  ·rename_i i _
   by_cases hi:i<x.vs.length
   ·exact .inr (fI hi)
   ·refine .inl ?_
    simp only[List.getD,List.getElem?_eq_none (Nat.le_of_not_lt hi)];rfl
  ·exact .inl U
 rcases hm with h1|h1
 ·rw[h1];exact hz
 ·refine⟨h.num.kid h1,?_⟩
  have h2:=Bq h1
  have h3:=h.wt
  rw[G6 x] at h3
  omega
theorem Ws:∀s∈zT,s.size<=10:=by decide
theorem aal(i:Nat):(zT.getD i ⟨#[]⟩).size<=10:=by
 by_cases hi:i<zT.length
 ·exact Ws _ (fI hi)
 ·simp only[List.getD,List.getElem?_eq_none (Nat.le_of_not_lt hi)];decide
theorem Sc(b1:Int)(kids:List V)(hk:∀x∈kids,lG x):∀q,q<=kids.length->Wt (30+70*q+eP (kids.take q)) (oN b1 kids q)
 |0,_=> .leaf (by decide) (by show 30+6*0<=_;omega)
 |q+1,hq=>by
  have ih:=Sc b1 kids hk q (by omega)
  have hy:Wt (tV (kids.getD q zeroV)) (kids.getD q zeroV):=⟨hk _ (fI (by omega)),Nat.le_refl _⟩
  refine(ih.with hy (aal (D8 b1 q))).up ?_
  rw[List.take_add_one,List.getElem?_eq_getElem (by omega:q<kids.length),tY]
  have e:kids.getD q zeroV=kids[q]:=getD_at (by omega)
  rw[e]
  show _<=30+70*(q+1)+(eP (kids.take q)+eP [kids[q]])
  rw[eP,eP]
  omega
theorem swV_wt(b0 b1:Int)(hb0:0<=b1)(hb1:b1<=255)(t:ByteArray)(ht:t.size<=12)(l:List V)(hl:∀x∈l,lG x):lG (Dz b0 b1 t l).2/\eP (l.take (Dz b0 b1 t l).1)+tV (Dz b0 b1 t l).2<=eP l+350:=by
 have hk:∀x∈dG b1 l,lG x:=λx hx=>hl x (List.mem_of_mem_drop hx)
 have h4:(b1.tmod 4).toNat<4:=by have:=Int.tmod_lt_of_pos b1 (by decide:(0:Int)<4);omega
 have hkl:(dG b1 l).length<=4:=by unfold dG mQ;rw[List.length_drop];omega
 have h20:=Int.tmod_nonneg 2 hb0
 have h21:=Int.tmod_lt_of_pos b1 (by decide:(0:Int)<2)
 have ha:eP (l.take l.length)=eP l:=by rw[List.take_length]
 have hs:eP (l.take (l.length-mQ b1 l))+eP (dG b1 l)=eP l:=qO l _
 have leaf:∀(k n:Int) (u:ByteArray),-9223372036854775808<=n/\n<=9223372036854775807->u.size<=12->lG (.mk k n u [] [])/\eP (l.take l.length)+tV (.mk k n u [] [])<=eP l+350:=λk n u h1 h2=>by
  have h3:Wt (30+6*u.size) (.mk k n u [] []):=.leaf h1 (Nat.le_refl _)
  have:=h3.wt
  exact⟨h3.num,by omega⟩
 unfold Dz
 repeat' split
 ·exact leaf _ _ _ (by omega) (by decide)
 ·exact leaf _ _ _ (by omega) (by decide)
 ·exact leaf _ _ _ (by omega) (by decide)
 ·exact leaf _ _ _ (by decide) (by decide)
 ·exact leaf _ _ _ (by decide) ht
 ·refine⟨vB (by decide) hk,?_⟩
  show eP (l.take (l.length-mQ b1 l))+tV _<=_
  rw[j3]
  show _+(30+6*0+0+_)<=_
  omega
 ·have:=Sc b1 (dG b1 l) hk (dG b1 l).length (Nat.le_refl _)
  refine⟨this.num,?_⟩
  have h5:=this.wt
  rw[List.take_length] at h5
  show eP (l.take (l.length-mQ b1 l))+tV (oN b1 (dG b1 l) (dG b1 l).length)<=_
  omega
 ·exact leaf _ _ _ (by decide) (by decide)
theorem oC{c:List Int}(hc:wy c)(i:Nat):0<=c.getD i 0/\c.getD i 0<=255:=by
 by_cases hi:i<c.length
 ·have:=hc _ (fI (z:=(0:Int)) hi);omega
 ·simp only[List.getD,List.getElem?_eq_none (Nat.le_of_not_lt hi)];decide
theorem QQ(c:List Int)(n:Nat):(textOf ((c.take (min c.length (2*n+3))).drop (2*n))).size<=12:=by
 have:=uU ((c.take (min c.length (2*n+3))).drop (2*n)) (min ((c.take (min c.length (2*n+3))).drop (2*n)).length 40)
 have hl:((c.take (min c.length (2*n+3))).drop (2*n)).length<=3:=by rw[List.length_drop,List.length_take];omega
 unfold textOf
 omega
theorem Sd{c:List Int}(hc:wy c):∀n,(∀x∈oO c n,lG x)/\eP (oO c n)<=351*n
 |0=>⟨λx (hx:x∈([]:List V))=>absurd hx (List.not_mem_nil),Nat.zero_le _⟩
 |n+1=>by
  obtain⟨h1,h2⟩:=Sd hc n
  obtain⟨h3,h4⟩:=swV_wt (c.getD (2*n) 0) (c.getD (2*n+1) 0) (oC hc _).1 (oC hc _).2 (textOf ((c.take (min c.length (2*n+3))).drop (2*n))) (QQ c n) (oO c n) h1
  constructor
  ·intro x hx
   rcases List.mem_append.1 hx with h|h
   ·exact h1 x (List.mem_of_mem_take h)
   ·rw[List.mem_singleton.1 h];exact h3
  ·show eP (_++[_])<=_
   rw[tY,eP,eP]
   omega
theorem Oe{c:List Int}(hc:wy c)(b:Int)(hb:0<=b):Wt 10600 (qK c b):=by
 rcases CF c b hb with h|⟨h,_⟩
 ·rw[h];exact .leaf (by decide) (by decide)
 ·obtain⟨h1,h2⟩:=Sd hc (min (c.length/2) 30)
  have h3:=Bq h
  have h4:(valOf c).vs=oO c (min (c.length/2) 30):=rfl
  rw[h4] at h3 h
  exact⟨h1 _ h,by omega⟩
theorem aam{c:List Int}(hc:wy c)(b:Int)(hb:0<=b):Wt 100000 (qK c b):=(Oe hc b hb).up (by decide)
def Wu:ByteArray:=⟨#[109,46,114,111,111,109,46,109,101,115,115,97,103,101]⟩
def Ag:ByteArray:=⟨#[116]⟩
def Jk:List ByteArray:=[rY,Bj,GL,GM,V9,Wu,Ag]
def Jl(k:Int):ByteArray:=Jk.getD (k.tmod 7).toNat ⟨#[]⟩
theorem Ue(k:Int)(hk0:0<=k)(hk1:k<256)(H:Hp):au Tryz.prog 45 [.v (.int .u8 k)] H (bB H (.v (.string (Jl k)))):=by
 have hm0:=Int.tmod_nonneg 7 hk0
 have hm1:=Int.tmod_lt_of_pos k (by decide:(0:Int)<7)
 have hg:=eY Jk (k.tmod 7).toNat (by show _<7;omega)
 have he:Jl k=Jk[(k.tmod 7).toNat]'(by show _<7;omega):=getD_at _
 rw[he]
 refine aF (n:=8) (H0:=H) (I:=[]) Tryz.func45 (by kernel_rfl) U (by rw[Tryz.ntmps45];rfl) .nil<|?_
 refine Q.rg<|Q.as U<|Q.nt<|Q.rg<|S.qu (Z.eq (u':=strs Jk) (Z.bl dQ U U (bz U)) U)<|Q.mv U<|Q.bi U U U<|S.qu (Z.ia aZ U U (by omega) hg (by rfl))<|?_
 refine S.qu (Z.fO dW U)<|Q.as U<|Q.nt<|UW.ret<|S.bH (λ_=>ak U U)<|?_
 rfl
def DD:List ByteArray:=[⟨#[109,101,109,98,101,114,115,104,105,112]⟩,⟨#[98,97,110]⟩,⟨#[117,115,101,114,115]⟩,⟨#[101,118,101,110,116,115]⟩,⟨#[106,111,105,110,95,114,117,108,101]⟩,⟨#[97,108,108,111,119]⟩,⟨#[120]⟩,⟨#[107,105,99,107]⟩,⟨#[117,115,101,114,115,95,100,101,102,97,117,108,116]⟩,⟨#[105,110,118,105,116,101]⟩]
def joinL:List ByteArray:=[⟨#[106,111,105,110]⟩,⟨#[98,97,110]⟩,⟨#[108,101,97,118,101]⟩,⟨#[105,110,118,105,116,101]⟩,⟨#[122]⟩]
def Wv:List ByteArray:=[⟨#[112,117,98,108,105,99]⟩,⟨#[105,110,118,105,116,101]⟩,⟨#[110,111,110,101]⟩]
def qP(c:List Int)(k:Int)(j:Nat):V:=
 if (c.getD j 0).tmod 10=0 then dz (joinL.getD (((c.getD j 0).tdiv 10).tmod 5).toNat ⟨#[]⟩)
 else if (c.getD j 0).tmod 10=4 then dz (Wv.getD (((c.getD j 0).tdiv 10).tmod 3).toNat ⟨#[]⟩)
 else if (c.getD j 0).tmod 10=2\/(c.getD j 0).tmod 10=3 then qK c (IntKind.u8.wrap (k+(j:Int)))
 else fu ((c.getD j 0).tmod 120-10)
def oD(c:List Int)(j:Nat):ByteArray:=DD.getD ((c.getD j 0).tmod 10).toNat ⟨#[]⟩
def xz(c:List Int)(k:Int):Nat->V
 |0=> .mk 5 0 ⟨#[]⟩ [] []
 |j+1=>aQ (xz c k j) (oD c j) (qP c k j)
def Jm(c:List Int)(k:Int):V:=xz c k (min c.length 6)
theorem Ww:∀s∈DD,s.size<=20:=by decide
theorem Og:∀s∈joinL,s.size<=20:=by decide
theorem Sg:∀s∈Wv,s.size<=20:=by decide
theorem Oh:∀s∈Jk,s.size<=20:=by decide
theorem lK{l:List ByteArray}{N:Nat}(h:∀s∈l,s.size<=N)(i:Nat):(l.getD i ⟨#[]⟩).size<=N:=by
 by_cases hi:i<l.length
 ·exact h _ (fI hi)
 ·simp only[List.getD,List.getElem?_eq_none (Nat.le_of_not_lt hi)];exact Nat.zero_le _
theorem l8(l:List ByteArray)(i:Nat)(h:i<l.length):(l.map encS)[i]? =some (encS (l.getD i ⟨#[]⟩)):=by rw[eY l i h,getD_at h]
theorem Wx(c:List Int)(j:Nat):(oD c j).size<=20:=lK Ww _
theorem Jn(x:Int):0<=IntKind.u8.wrap x/\IntKind.u8.wrap x<256:=by rw[IntKind.wrap_u8];omega
theorem QR{c:List Int}(hc:wy c)(k:Int)(j:Nat):Fits (qP c k j)/\Wt 100000 (qP c k j):=by
 have hs:∀t:ByteArray,t.size<=20->Fits (dz t)/\Wt 100000 (dz t):=λt h=>⟨kV t,.str (by omega)⟩
 have hb:=oC hc j
 unfold qP
 repeat' split
 ·exact hs _ (lK Og _)
 ·exact hs _ (lK Sg _)
 ·exact⟨(GI c _ (Jn _).1).1,aam hc _ (Jn _).1⟩
 ·have h1:=Int.tmod_nonneg 120 hb.1
  have h2:=Int.tmod_lt_of_pos (c.getD j 0) (by decide:(0:Int)<120)
  exact⟨kK _ _ _,.leaf (by omega) (by decide)⟩
theorem zY{c:List Int}(hc:wy c)(k:Int):∀j,Ev (xz c k j) j/\Wt (30+100200*j) (xz c k j)
 |0=>⟨Bn,.leaf (by decide) (by decide)⟩
 |j+1=>by
  obtain⟨h1,h2⟩:=zY hc k j
  obtain⟨h3,h4⟩:=QR hc k j
  have h5:=Wx c j
  exact⟨h1.with (by omega) h3,(h2.with h4 h5).up (by omega)⟩
theorem Uf(c:List Int)(hc:wy c)(k:Int)(hk0:0<=k)(hk1:k<256)(H:Hp):au Tryz.prog 46 [yM c,.v (.int .u8 k)] H (bB H (.agg (aC (Jm c k)))):=by
 have yE:(c.map wY).length=c.length:=List.length_map ..
 refine aF (n:=93) (H0:=H) (I:=[]) Tryz.func46 (by kernel_rfl) U (by rw[Tryz.ntmps46];rfl) .nil<|?_
 refine Q.rg<|S.dd<|D.al z26 U U U λp4=>Q.nt<|Q.rg<|S.qu (Z.bd [0] gU U U U U U U)<|S.dd<|D.al z26 U U U λp5=>S.s<|D.st 0 av U U U U U U U U λ_=>Q.nt<|Q.rg<|S.qu (Z.eq (u':=strs DD) (Z.bl dQ U U (bz U)) U)<|Q.as U<|Q.nt<|S.sq<|Q.rg<|Q.as U<|Q.nt<|UW.block<|S.loop (λj:Nat×V=>[(7,.v (.int .i64 (j.1:Int))),(6,strs DD),(5,.ptr p5 0),(4,.ptr p4 0),(0,yM c),(1,.v (.int .u8 k))]) (λj=>[(p5,.box 26 (aC j.2)),(p4,.box 26 (aC zeroV))]) (λj=>j.1<=c.length/\j.1<=6/\j.2=xz c k j.1) (λj=>6-j.1) (0,.mk 5 0 ⟨#[]⟩ [] []) ⟨Nat.zero_le _,Nat.zero_le _,rfl⟩ ⟨rfl,rfl,rfl,rfl,rfl,rfl,trivial⟩ (.refl _)<|?_
 rintro⟨j,o⟩ ⟨hj,hj6,ho⟩
 dsimp only at hj hj6 ho⊢
 by_cases hlt:j<c.length
 ·by_cases hl6:j<6
  ·obtain⟨hg0,hb0,hb1⟩:=LA hc hlt
   have hm0:=Int.tmod_nonneg 10 hb0
   have hm1:=Int.tmod_lt_of_pos (c.getD j 0) (by decide:(0:Int)<10)
   have hn0:=Int.tmod_nonneg 120 hb0
   have hn1:=Int.tmod_lt_of_pos (c.getD j 0) (by decide:(0:Int)<120)
   have hq0:=Int.tdiv_nonneg hb0 (by decide:(0:Int)<=10)
   have hq1:(c.getD j 0).tdiv 10<=25:=by rw[Int.tdiv_eq_ediv_of_nonneg hb0];omega
   have hwr:IntKind.u8.wrap ((c.getD j 0).tdiv 10)=(c.getD j 0).tdiv 10:=by rw[IntKind.wrap_u8];omega
   have hr0:=Int.tmod_nonneg 5 hq0
   have hr1:=Int.tmod_lt_of_pos ((c.getD j 0).tdiv 10) (by decide:(0:Int)<5)
   have hs0:=Int.tmod_nonneg 3 hq0
   have hs1:=Int.tmod_lt_of_pos ((c.getD j 0).tdiv 10) (by decide:(0:Int)<3)
   have Ij:(DD.map encS)[((c.getD j 0).tmod 10).toNat]? =some (encS (oD c j)):=l8 DD _ (by show _<10;omega)
   have hgj:=l8 joinL (((c.getD j 0).tdiv 10).tmod 5).toNat (by show _<5;omega)
   have hgp:=l8 Wv (((c.getD j 0).tdiv 10).tmod 3).toNat (by show _<3;omega)
   have hw8:=Jn (k+(j:Int))
   have hpart:=λH=>TV c hc (IntKind.u8.wrap (k+(j:Int))) hw8.1 hw8.2 H
   obtain⟨hev,_⟩:=zY hc k j
   rw[<-ho] at hev
   have hof:=hev.fits (by omega)
   have hst:xz c k (j+1)=aQ o (oD c j) (qP c k j):=by rw[ho];rfl
   have hw:∀y H,au Tryz.prog 18 [.agg (aC o),.v (.string (oD c j)),.agg (aC y)] H (bB H (.agg (aC (aQ o (oD c j) y)))):=λy H=>jb o hof hev.keys (oD c j) y H
   have hX:qP c k j=qP c k j:=rfl
   conv at hX=>rhs;unfold qP
   generalize joinL.getD (((c.getD j 0).tdiv 10).tmod 5).toNat ⟨#[]⟩=tj at*
   generalize Wv.getD (((c.getD j 0).tdiv 10).tmod 3).toNat ⟨#[]⟩=tp at*
   generalize c.getD j 0=b at*
   generalize oD c j=key at*
   generalize hnx:xz c k (j+1)=nx at*
   have hnx:=hnx.symm
   generalize qP c k j=x at*
   by_cases h0:b.tmod 10=0
   ·rw[if_pos h0] at hX
    focus
     refine S.sq<|Q.rg<|Q.mv U<|Q.mv U<|S.qu (Z.fM cK U)<|Q.bi U U U<|Q.mv U<|?_
     refine S.tD 15 (λG7=>?_) (λG7=>?_)
     rotate_left
     omega
     refine Q.on (Z.mv U)<|Q.on (Z.bi U U U)<|Q.pk U U<|Q.nt<|S.cT U (decide_eq_true (by omega))<|UW.skip<|UQ.then<|S.sq<|UW.block<|Q.rg<|Q.mv U<|Q.mv U<|S.qu (Z.ia cK U U (by omega) (by assumption) (by rfl))<|?_
     refine S.qu (Z.fO oW U)<|Q.bi U U U<|S.qu (Z.cv Tryz.underlying2 U (IntWalk.i64_in _ (by omega)) (by rw[Tryz.underlying5];rfl))<|?_
     refine S.qu (Z.sub U U (IntWalk.i64_in _ (by omega)))<|S.qu (Z.call U U (λH=>gJ (b.tmod 120-10) H))<|S.dd<|D.al z26 U U U λp8=>S.s<|D.st 0 av U U U U U U U U λ_=>Q.nt<|S.sq<|Q.rg<|Q.mv U<|Q.mv U<|S.qu (Z.ia cK U U (by omega) (by assumption) (by rfl))<|?_
     refine S.qu (Z.fO oW U)<|Q.bi U U U<|Q.bi U U U<|Q.nt<|S.cT U (jP (by omega))<|S.rg<|S.qu (Z.eq (u':=strs joinL) (Z.bl dQ U U (bz U)) U)<|Q.mv U<|Q.mv U<|S.qu (Z.ia cK U U (by omega) (by assumption) (by rfl))<|?_
     refine S.qu (Z.fO oW U)<|S.qu (Z.eq (u':=.v (.int .u8 (b.tdiv 10))) (Z.bi U U U) (by rw[hwr]))<|?_
     refine Q.bi U U U<|S.qu (Z.ia aZ U U (by omega) hgj (by rfl))<|?_
     refine S.qu (Z.fO dW U)<|S.qu (Z.call U U (λH=>jq tj H))<|S.s<|D.st 0 av U U U U U U U U λ_=>Q.nt<|S.sq<|Q.rg<|Q.mv U<|Q.mv U<|S.qu (Z.ia cK U U (by omega) (by assumption) (by rfl))<|?_
     refine S.qu (Z.fO oW U)<|Q.bi U U U<|Q.bi U U U<|Q.nt<|S.cF U (gG (by omega))<|UW.skip<|UQ.then<|S.sq<|Q.rg<|Q.mv U<|Q.mv U<|S.qu (Z.ia cK U U (by omega) (by assumption) (by rfl))<|?_
     refine S.qu (Z.fO oW U)<|Q.bi U U U<|Q.bi U U U<|Q.mv U<|?_
     refine S.tE 67 (λQT=>?_) (λQT=>?_)
     omega
     refine Q.on (Z.mv U)<|Q.on (Z.mv U)<|Q.on (Z.ia cK U U (by omega) (by assumption) (by rfl))<|?_
     refine Q.on (Z.fO oW U)<|Q.on (Z.bi U U U)<|Q.on (Z.bi U U U)<|Q.pk U U<|Q.nt<|S.cF U (gG (by omega))<|UW.skip<|UQ.then<|?_
     refine' UW.bG (by kernel_rfl) [0,0,0,0,12,28,60,126,254,0,1023,2047] [some 81,some 82,some 83,some 84,some 85,some 86,some 87,some 88,some 89,some 90,some 91,none] [some (81,_),some (82,_),some (83,_),some (84,_),some (85,_),some (86,_),some (87,_),some (88,_),some (89,_),some (90,_),some (91,_),none] [11] [0,5,8,9] U (by decide) (by decide) (M.held (by decide) U U ?jG (M.free (by decide) U U ?jH (M.free (by decide) U U ?jI (M.free (by decide) U U ?jJ (M.free (by decide) U U ?jK (M.held (by decide) U U ?kE (M.free (by decide) U U ?nK (M.free (by decide) U U ?zD (M.held (by decide) U U ?zF (M.held (by decide) U U ?zG (M.free (by decide) U U ?AY (M.skip M.nil)))))))))))) ?uH
     case jG=>exact Z.bW 1 av rfl rfl (Y _)
     case jH=>(intro _;exact Z.mv rfl)
     case jI=>(intro _;exact Z.mv rfl)
     case jJ=>(intro _;exact Z.mv rfl)
     case jK=>(intro _;exact Z.ia cK rfl rfl (by omega) (by assumption) (by rfl))
     case kE=>exact Z.fO oW rfl
     case nK=>(intro _;exact Z.bi rfl rfl rfl)
     case zD=>(intro _;exact Z.ia aZ rfl rfl (by omega) Ij (by rfl))
     case zF=>exact Z.fO dW rfl
     case zG=>exact Z.bW 0 av rfl rfl rfl
     case AY=>(intro _;exact Z.eq (u':=.agg (aC nx)) (Z.call rfl rfl (λH=>hw (dz tj) H)) (by rw[hst,hX]))
     refine CH.bX U U<|D.vW 1 av U U U U (by exact az _) (Y _) (Y _) U λ_=>?_
     refine CH.nil<|?_
     simp only[app,bS]
     refine UQ.aB<|UQ.then<|S.rg<|Q.mv U<|S.qu (Z.add (r:=((j+1:Nat):Int)) U U (IntWalk.i64_in _ (by omega)))<|Q.as U<|US.nil<|?_
     refine S.back (j+1,nx) ⟨rfl,rfl,rfl,rfl,rfl,rfl,trivial⟩ (by repeat (first|exact List.Sublist.refl _|exact List.nil_sublist _|refine .cons_cons _ ?_|refine .cons _ ?_)) ?_ (by omega)
    all_goals exact⟨hlt,hl6,hnx⟩
   ·rw[if_neg h0] at hX
    by_cases h4:b.tmod 10=4
    ·rw[if_pos h4] at hX
     focus
      refine S.sq<|Q.rg<|Q.mv U<|Q.mv U<|S.qu (Z.fM cK U)<|Q.bi U U U<|Q.mv U<|?_
      refine S.tD 15 (λG7=>?_) (λG7=>?_)
      rotate_left
      omega
      refine Q.on (Z.mv U)<|Q.on (Z.bi U U U)<|Q.pk U U<|Q.nt<|S.cT U (decide_eq_true (by omega))<|UW.skip<|UQ.then<|S.sq<|UW.block<|Q.rg<|Q.mv U<|Q.mv U<|S.qu (Z.ia cK U U (by omega) (by assumption) (by rfl))<|?_
      refine S.qu (Z.fO oW U)<|Q.bi U U U<|S.qu (Z.cv Tryz.underlying2 U (IntWalk.i64_in _ (by omega)) (by rw[Tryz.underlying5];rfl))<|?_
      refine S.qu (Z.sub U U (IntWalk.i64_in _ (by omega)))<|S.qu (Z.call U U (λH=>gJ (b.tmod 120-10) H))<|S.dd<|D.al z26 U U U λp8=>S.s<|D.st 0 av U U U U U U U U λ_=>Q.nt<|S.sq<|Q.rg<|Q.mv U<|Q.mv U<|S.qu (Z.ia cK U U (by omega) (by assumption) (by rfl))<|?_
      refine S.qu (Z.fO oW U)<|Q.bi U U U<|Q.bi U U U<|Q.nt<|S.cF U (gG (by omega))<|UW.skip<|UQ.then<|S.sq<|Q.rg<|Q.mv U<|Q.mv U<|S.qu (Z.ia cK U U (by omega) (by assumption) (by rfl))<|?_
      refine S.qu (Z.fO oW U)<|Q.bi U U U<|Q.bi U U U<|Q.nt<|S.cT U (jP (by omega))<|S.rg<|S.qu (Z.eq (u':=strs Wv) (Z.bl dQ U U (bz U)) U)<|Q.mv U<|Q.mv U<|S.qu (Z.ia cK U U (by omega) (by assumption) (by rfl))<|?_
      refine S.qu (Z.fO oW U)<|S.qu (Z.eq (u':=.v (.int .u8 (b.tdiv 10))) (Z.bi U U U) (by rw[hwr]))<|?_
      refine Q.bi U U U<|S.qu (Z.ia aZ U U (by omega) hgp (by rfl))<|?_
      refine S.qu (Z.fO dW U)<|S.qu (Z.call U U (λH=>jq tp H))<|S.s<|D.st 0 av U U U U U U U U λ_=>Q.nt<|S.sq<|Q.rg<|Q.mv U<|Q.mv U<|S.qu (Z.ia cK U U (by omega) (by assumption) (by rfl))<|?_
      refine S.qu (Z.fO oW U)<|Q.bi U U U<|Q.bi U U U<|Q.mv U<|?_
      refine S.tE 67 (λQT=>?_) (λQT=>?_)
      omega
      refine Q.on (Z.mv U)<|Q.on (Z.mv U)<|Q.on (Z.ia cK U U (by omega) (by assumption) (by rfl))<|?_
      refine Q.on (Z.fO oW U)<|Q.on (Z.bi U U U)<|Q.on (Z.bi U U U)<|Q.pk U U<|Q.nt<|S.cF U (gG (by omega))<|UW.skip<|UQ.then<|?_
      refine' UW.bG (by kernel_rfl) [0,0,0,0,12,28,60,126,254,0,1023,2047] [some 81,some 82,some 83,some 84,some 85,some 86,some 87,some 88,some 89,some 90,some 91,none] [some (81,_),some (82,_),some (83,_),some (84,_),some (85,_),some (86,_),some (87,_),some (88,_),some (89,_),some (90,_),some (91,_),none] [11] [0,5,8,9] U (by decide) (by decide) (M.held (by decide) U U ?uM (M.free (by decide) U U ?uN (M.free (by decide) U U ?uO (M.free (by decide) U U ?uP (M.free (by decide) U U ?uQ (M.held (by decide) U U ?zH (M.free (by decide) U U ?zI (M.free (by decide) U U ?zJ (M.held (by decide) U U ?zK (M.held (by decide) U U ?zL (M.free (by decide) U U ?uR (M.skip M.nil)))))))))))) ?KN
      case uM=>exact Z.bW 1 av rfl rfl (Y _)
      case uN=>(intro _;exact Z.mv rfl)
      case uO=>(intro _;exact Z.mv rfl)
      case uP=>(intro _;exact Z.mv rfl)
      case uQ=>(intro _;exact Z.ia cK rfl rfl (by omega) (by assumption) (by rfl))
      case zH=>exact Z.fO oW rfl
      case zI=>(intro _;exact Z.bi rfl rfl rfl)
      case zJ=>(intro _;exact Z.ia aZ rfl rfl (by omega) Ij (by rfl))
      case zK=>exact Z.fO dW rfl
      case zL=>exact Z.bW 0 av rfl rfl rfl
      case uR=>(intro _;exact Z.eq (u':=.agg (aC nx)) (Z.call rfl rfl (λH=>hw (dz tp) H)) (by rw[hst,hX]))
      refine CH.bX U U<|D.vW 1 av U U U U (by exact az _) (Y _) (Y _) U λ_=>?_
      refine CH.nil<|?_
      simp only[app,bS]
      refine UQ.aB<|UQ.then<|S.rg<|Q.mv U<|S.qu (Z.add (r:=((j+1:Nat):Int)) U U (IntWalk.i64_in _ (by omega)))<|Q.as U<|US.nil<|?_
      refine S.back (j+1,nx) ⟨rfl,rfl,rfl,rfl,rfl,rfl,trivial⟩ (by repeat (first|exact List.Sublist.refl _|exact List.nil_sublist _|refine .cons_cons _ ?_|refine .cons _ ?_)) ?_ (by omega)
     all_goals exact⟨hlt,hl6,hnx⟩
    ·rw[if_neg h4] at hX
     by_cases h2:b.tmod 10=2\/b.tmod 10=3
     ·rw[if_pos h2] at hX
      focus
       refine S.sq<|Q.rg<|Q.mv U<|Q.mv U<|S.qu (Z.fM cK U)<|Q.bi U U U<|Q.mv U<|?_
       refine S.tD 15 (λG7=>?_) (λG7=>?_)
       rotate_left
       omega
       refine Q.on (Z.mv U)<|Q.on (Z.bi U U U)<|Q.pk U U<|Q.nt<|S.cT U (decide_eq_true (by omega))<|UW.skip<|UQ.then<|S.sq<|UW.block<|Q.rg<|Q.mv U<|Q.mv U<|S.qu (Z.ia cK U U (by omega) (by assumption) (by rfl))<|?_
       refine S.qu (Z.fO oW U)<|Q.bi U U U<|S.qu (Z.cv Tryz.underlying2 U (IntWalk.i64_in _ (by omega)) (by rw[Tryz.underlying5];rfl))<|?_
       refine S.qu (Z.sub U U (IntWalk.i64_in _ (by omega)))<|S.qu (Z.call U U (λH=>gJ (b.tmod 120-10) H))<|S.dd<|D.al z26 U U U λp8=>S.s<|D.st 0 av U U U U U U U U λ_=>Q.nt<|S.sq<|Q.rg<|Q.mv U<|Q.mv U<|S.qu (Z.ia cK U U (by omega) (by assumption) (by rfl))<|?_
       refine S.qu (Z.fO oW U)<|Q.bi U U U<|Q.bi U U U<|Q.nt<|S.cF U (gG (by omega))<|UW.skip<|UQ.then<|S.sq<|Q.rg<|Q.mv U<|Q.mv U<|S.qu (Z.ia cK U U (by omega) (by assumption) (by rfl))<|?_
       refine S.qu (Z.fO oW U)<|Q.bi U U U<|Q.bi U U U<|Q.nt<|S.cF U (gG (by omega))<|UW.skip<|UQ.then<|S.sq<|Q.rg<|Q.mv U<|Q.mv U<|S.qu (Z.ia cK U U (by omega) (by assumption) (by rfl))<|?_
       refine S.qu (Z.fO oW U)<|Q.bi U U U<|Q.bi U U U<|Q.mv U<|?_
       refine S.tE 67 (λQT=>?_) (λQT=>?_)
       refine Q.of<|Q.of<|Q.of<|Q.of<|Q.of<|Q.of<|Q.pk U U<|Q.nt<|S.cT U U<|S.rg<|Q.mv U<|Q.mv U<|Q.mv U<|S.qu (Z.cv Tryz.underlying5 U (IntWalk.u8_in _ (by omega)) (by rw[Tryz.underlying3];rfl))<|?_
       refine S.qu (Z.add U U U)<|S.qu (Z.call U U (λH=>hpart H))<|S.s<|D.vW 0 av U U U U (by exact az _) (Y _) U U λ_=>?_
       refine Q.nt<|?_
       refine' UW.bG (by kernel_rfl) [0,0,0,0,12,28,60,126,254,0,1023,2047] [some 81,some 82,some 83,some 84,some 85,some 86,some 87,some 88,some 89,some 90,some 91,none] [some (81,_),some (82,_),some (83,_),some (84,_),some (85,_),some (86,_),some (87,_),some (88,_),some (89,_),some (90,_),some (91,_),none] [11] [0,5,8,9] U (by decide) (by decide) (M.held (by decide) U U ?nA (M.free (by decide) U U ?nC (M.free (by decide) U U ?nD (M.free (by decide) U U ?nE (M.free (by decide) U U ?qC (M.held (by decide) U U ?qp (M.free (by decide) U U ?qw (M.free (by decide) U U ?qx (M.held (by decide) U U ?y8 (M.held (by decide) U U ?y9 (M.free (by decide) U U ?AZ (M.skip M.nil)))))))))))) ?Cf
       case nA=>exact Z.bW 1 av rfl rfl (Y _)
       case nC=>(intro _;exact Z.mv rfl)
       case nD=>(intro _;exact Z.mv rfl)
       case nE=>(intro _;exact Z.mv rfl)
       case qC=>(intro _;exact Z.ia cK rfl rfl (by omega) (by assumption) (by rfl))
       case qp=>exact Z.fO oW rfl
       case qw=>(intro _;exact Z.bi rfl rfl rfl)
       case qx=>(intro _;exact Z.ia aZ rfl rfl (by omega) Ij (by rfl))
       case y8=>exact Z.fO dW rfl
       case y9=>exact Z.bW 0 av rfl rfl (Y _)
       case AZ=>(intro _;exact Z.eq (u':=.agg (aC nx)) (Z.call rfl rfl (λH=>hw (qK c (IntKind.u8.wrap (k+(j:Int)))) H)) (by rw[hst,hX]))
       refine CH.bX U U<|D.vW 1 av U U U U (by exact az _) (Y _) (Y _) U λ_=>?_
       refine CH.nil<|?_
       simp only[app,bS]
       refine UQ.aB<|UQ.then<|S.rg<|Q.mv U<|S.qu (Z.add (r:=((j+1:Nat):Int)) U U (IntWalk.i64_in _ (by omega)))<|Q.as U<|US.nil<|?_
       refine S.back (j+1,nx) ⟨rfl,rfl,rfl,rfl,rfl,rfl,trivial⟩ (by repeat (first|exact List.Sublist.refl _|exact List.nil_sublist _|refine .cons_cons _ ?_|refine .cons _ ?_)) ?_ (by omega)
       rotate_left
       refine Q.on (Z.mv U)<|Q.on (Z.mv U)<|Q.on (Z.ia cK U U (by omega) (by assumption) (by rfl))<|?_
       refine Q.on (Z.fO oW U)<|Q.on (Z.bi U U U)<|Q.on (Z.bi U U U)<|Q.pk U U<|Q.nt<|S.cT U (jP (by omega))<|S.rg<|Q.mv U<|Q.mv U<|Q.mv U<|S.qu (Z.cv Tryz.underlying5 U (IntWalk.u8_in _ (by omega)) (by rw[Tryz.underlying3];rfl))<|?_
       refine S.qu (Z.add U U U)<|S.qu (Z.call U U (λH=>hpart H))<|S.s<|D.vW 0 av U U U U (by exact az _) (Y _) U U λ_=>?_
       refine Q.nt<|?_
       refine' UW.bG (by kernel_rfl) [0,0,0,0,12,28,60,126,254,0,1023,2047] [some 81,some 82,some 83,some 84,some 85,some 86,some 87,some 88,some 89,some 90,some 91,none] [some (81,_),some (82,_),some (83,_),some (84,_),some (85,_),some (86,_),some (87,_),some (88,_),some (89,_),some (90,_),some (91,_),none] [11] [0,5,8,9] U (by decide) (by decide) (M.held (by decide) U U ?QU (M.free (by decide) U U ?QV (M.free (by decide) U U ?QW (M.free (by decide) U U ?QX (M.free (by decide) U U ?QY (M.held (by decide) U U ?q4x1_5 (M.free (by decide) U U ?q4x1_6 (M.free (by decide) U U ?q4x1_7 (M.held (by decide) U U ?q4x1_8 (M.held (by decide) U U ?q4x1_9 (M.free (by decide) U U ?aan (M.skip M.nil)))))))))))) ?q4x1_k
       case QU=>exact Z.bW 1 av rfl rfl (Y _)
       case QV=>(intro _;exact Z.mv rfl)
       case QW=>(intro _;exact Z.mv rfl)
       case QX=>(intro _;exact Z.mv rfl)
       case QY=>(intro _;exact Z.ia cK rfl rfl (by omega) (by assumption) (by rfl))
       case q4x1_5=>exact Z.fO oW rfl
       case q4x1_6=>(intro _;exact Z.bi rfl rfl rfl)
       case q4x1_7=>(intro _;exact Z.ia aZ rfl rfl (by omega) Ij (by rfl))
       case q4x1_8=>exact Z.fO dW rfl
       case q4x1_9=>exact Z.bW 0 av rfl rfl (Y _)
       case aan=>(intro _;exact Z.eq (u':=.agg (aC nx)) (Z.call rfl rfl (λH=>hw (qK c (IntKind.u8.wrap (k+(j:Int)))) H)) (by rw[hst,hX]))
       refine CH.bX U U<|D.vW 1 av U U U U (by exact az _) (Y _) (Y _) U λ_=>?_
       refine CH.nil<|?_
       simp only[app,bS]
       refine UQ.aB<|UQ.then<|S.rg<|Q.mv U<|S.qu (Z.add (r:=((j+1:Nat):Int)) U U (IntWalk.i64_in _ (by omega)))<|Q.as U<|US.nil<|?_
       refine S.back (j+1,nx) ⟨rfl,rfl,rfl,rfl,rfl,rfl,trivial⟩ (by repeat (first|exact List.Sublist.refl _|exact List.nil_sublist _|refine .cons_cons _ ?_|refine .cons _ ?_)) ?_ (by omega)
       rotate_left
      all_goals exact⟨hlt,hl6,hnx⟩
     ·rw[if_neg h2] at hX
      focus
       refine S.sq<|Q.rg<|Q.mv U<|Q.mv U<|S.qu (Z.fM cK U)<|Q.bi U U U<|Q.mv U<|?_
       refine S.tD 15 (λG7=>?_) (λG7=>?_)
       rotate_left
       omega
       refine Q.on (Z.mv U)<|Q.on (Z.bi U U U)<|Q.pk U U<|Q.nt<|S.cT U (decide_eq_true (by omega))<|UW.skip<|UQ.then<|S.sq<|UW.block<|Q.rg<|Q.mv U<|Q.mv U<|S.qu (Z.ia cK U U (by omega) (by assumption) (by rfl))<|?_
       refine S.qu (Z.fO oW U)<|Q.bi U U U<|S.qu (Z.cv Tryz.underlying2 U (IntWalk.i64_in _ (by omega)) (by rw[Tryz.underlying5];rfl))<|?_
       refine S.qu (Z.sub U U (IntWalk.i64_in _ (by omega)))<|S.qu (Z.call U U (λH=>gJ (b.tmod 120-10) H))<|S.dd<|D.al z26 U U U λp8=>S.s<|D.st 0 av U U U U U U U U λ_=>Q.nt<|S.sq<|Q.rg<|Q.mv U<|Q.mv U<|S.qu (Z.ia cK U U (by omega) (by assumption) (by rfl))<|?_
       refine S.qu (Z.fO oW U)<|Q.bi U U U<|Q.bi U U U<|Q.nt<|S.cF U (gG (by omega))<|UW.skip<|UQ.then<|S.sq<|Q.rg<|Q.mv U<|Q.mv U<|S.qu (Z.ia cK U U (by omega) (by assumption) (by rfl))<|?_
       refine S.qu (Z.fO oW U)<|Q.bi U U U<|Q.bi U U U<|Q.nt<|S.cF U (gG (by omega))<|UW.skip<|UQ.then<|S.sq<|Q.rg<|Q.mv U<|Q.mv U<|S.qu (Z.ia cK U U (by omega) (by assumption) (by rfl))<|?_
       refine S.qu (Z.fO oW U)<|Q.bi U U U<|Q.bi U U U<|Q.mv U<|?_
       refine S.tE 67 (λQT=>?_) (λQT=>?_)
       omega
       refine Q.on (Z.mv U)<|Q.on (Z.mv U)<|Q.on (Z.ia cK U U (by omega) (by assumption) (by rfl))<|?_
       refine Q.on (Z.fO oW U)<|Q.on (Z.bi U U U)<|Q.on (Z.bi U U U)<|Q.pk U U<|Q.nt<|S.cF U (gG (by omega))<|UW.skip<|UQ.then<|?_
       refine' UW.bG (by kernel_rfl) [0,0,0,0,12,28,60,126,254,0,1023,2047] [some 81,some 82,some 83,some 84,some 85,some 86,some 87,some 88,some 89,some 90,some 91,none] [some (81,_),some (82,_),some (83,_),some (84,_),some (85,_),some (86,_),some (87,_),some (88,_),some (89,_),some (90,_),some (91,_),none] [11] [0,5,8,9] U (by decide) (by decide) (M.held (by decide) U U ?F7 (M.free (by decide) U U ?F8 (M.free (by decide) U U ?F9 (M.free (by decide) U U ?Ga (M.free (by decide) U U ?Gb (M.held (by decide) U U ?Gc (M.free (by decide) U U ?Gd (M.free (by decide) U U ?Gf (M.held (by decide) U U ?Gg (M.held (by decide) U U ?P9 (M.free (by decide) U U ?K9 (M.skip M.nil)))))))))))) ?VK
       case F7=>exact Z.bW 1 av rfl rfl (Y _)
       case F8=>(intro _;exact Z.mv rfl)
       case F9=>(intro _;exact Z.mv rfl)
       case Ga=>(intro _;exact Z.mv rfl)
       case Gb=>(intro _;exact Z.ia cK rfl rfl (by omega) (by assumption) (by rfl))
       case Gc=>exact Z.fO oW rfl
       case Gd=>(intro _;exact Z.bi rfl rfl rfl)
       case Gf=>(intro _;exact Z.ia aZ rfl rfl (by omega) Ij (by rfl))
       case Gg=>exact Z.fO dW rfl
       case P9=>exact Z.bW 0 av rfl rfl rfl
       case K9=>(intro _;exact Z.eq (u':=.agg (aC nx)) (Z.call rfl rfl (λH=>hw (fu (b.tmod 120-10)) H)) (by rw[hst,hX]))
       refine CH.bX U U<|D.vW 1 av U U U U (by exact az _) (Y _) (Y _) U λ_=>?_
       refine CH.nil<|?_
       simp only[app,bS]
       refine UQ.aB<|UQ.then<|S.rg<|Q.mv U<|S.qu (Z.add (r:=((j+1:Nat):Int)) U U (IntWalk.i64_in _ (by omega)))<|Q.as U<|US.nil<|?_
       refine S.back (j+1,nx) ⟨rfl,rfl,rfl,rfl,rfl,rfl,trivial⟩ (by repeat (first|exact List.Sublist.refl _|exact List.nil_sublist _|refine .cons_cons _ ?_|refine .cons _ ?_)) ?_ (by omega)
      all_goals exact⟨hlt,hl6,hnx⟩
  ·focus
    refine S.sq<|Q.rg<|Q.mv U<|Q.mv U<|S.qu (Z.fM cK U)<|Q.bi U U U<|Q.mv U<|?_
    refine S.tD 15 (λG7=>?_) (λG7=>?_)
    rotate_left
    omega
    refine Q.on (Z.mv U)<|Q.on (Z.bi U U U)<|Q.pk U U<|Q.nt<|S.cF U (decide_eq_false (by omega))<|UW.exit<|UQ.pass<|UQ.pass<|UQ.here<|UQ.then<|Q.rg<|S.qu (Z.bW 0 av U U (Y _))<|S.s<|D.vW 1 av U U U U (by exact az _) (Y _) U U λ_=>?_
    refine Q.nt<|UW.ret<|S.bH (λhd=>aX (k:=1) hd U U U gQ (by rw[Y];exact gT))<|?_
   rw[ho,show j=min c.length 6 from by omega];rfl
 ·refine S.sq<|Q.rg<|Q.mv U<|Q.mv U<|S.qu (Z.fM cK U)<|Q.bi U U U<|Q.mv U<|?_
  refine S.tD 15 (λG7=>?_) (λG7=>?_)
  omega
  refine Q.of<|Q.of<|Q.pk U U<|Q.nt<|S.cF U U<|UW.exit<|UQ.pass<|UQ.pass<|UQ.here<|UQ.then<|Q.rg<|S.qu (Z.bW 0 av U U (Y _))<|S.s<|D.vW 1 av U U U U (by exact az _) (Y _) U U λ_=>?_
  refine Q.nt<|UW.ret<|S.bH (λhd=>aX (k:=1) hd U U U gQ (by rw[Y];exact gT))<|?_
  rw[ho,show j=min c.length 6 from by omega];rfl
theorem Wy{a b:ByteArray}(h:uF a b=true):a=b:=gI (by unfold uF at h;simpa using h)
theorem Si:∀{a b:List ByteArray},mh uF a b=true->a=b
 |[],[],_=>rfl
 |[],_::_,h=>by cases h
 |_::_,[],h=>by cases h
 |x::r,y::s,h=>by
  have h':(uF x y&&mh uF r s)=true:=h
  rw[Bool.and_eq_true] at h'
  rw[Wy h'.1,Si h'.2]
mutual
theorem same_eq:∀{x y:V},gV x y=true->x=y
 | .mk k n t ks vs,.mk k' n' t' ks' vs',h=>by
   rw[gV] at h
   simp only[Bool.and_eq_true,beq_iff_eq] at h
   obtain⟨rfl,rfl,h3,h4,h5⟩:=h
   rw[Wy h3,Si h4,Oi h5]
theorem Oi:∀{x y:List V},wU x y=true->x=y
 |[],[],_=>rfl
 |[],_::_,h=>by rw[wU] at h;cases h
 |_::_,[],h=>by rw[wU] at h;cases h
 |x::r,y::s,h=>by
  rw[wU,Bool.and_eq_true] at h
  rw[same_eq h.1,Oi h.2]
end
theorem aao{x y:V}(h:x≠y):gV x y=false:=by
 cases hs:gV x y with
 |false=>rfl
 |true=>exact absurd (same_eq hs) h
theorem Wz{a b:ByteArray}(h:dz a=dz b):a=b:=by injection h
theorem WA(a b:ByteArray):gV (dz a) (dz b)=(a.toList==b.toList):=by
 cases h:(a.toList==b.toList) with
 |true=>
  have:a=b:=gI (by simpa using h)
  rw[this];exact CV _ (kV _)
 |false=>exact aao λe=>by rw[Wz e] at h;simp at h
structure O(x:V):Prop where
 k:x.k=5
 n:x.n=0
 t:x.t=⟨#[]⟩
 len:x.ks.length=x.vs.length
 GU:Asc x.ks
theorem O.form{x:V}(h:O x):x=.mk 5 0 ⟨#[]⟩ x.ks x.vs:=by
 obtain⟨k,n,t,ks,vs⟩:=x
 have h1:k=5:=h.k
 have h2:n=0:=h.n
 have h3:t=⟨#[]⟩:=h.t
 subst h1;subst h2;subst h3;rfl
theorem O.of{ks:List ByteArray}{vs:List V}(hl:ks.length=vs.length)(ha:Asc ks):O (.mk 5 0 ⟨#[]⟩ ks vs):=⟨rfl,rfl,rfl,hl,ha⟩
theorem O.empty:O (.mk 5 0 ⟨#[]⟩ [] []):=.of U (λi j hi=>absurd hi (Nat.not_lt_zero _))
theorem O.with{x:V}(h:O x)(key:ByteArray)(y:V):O (aQ x key y):=by
 rw[h.form]
 obtain⟨ks',vs',e1,e2,e3,_⟩:=CP (n:=0) (t:=⟨#[]⟩) h.len h.GU key y
 rw[e1];exact .of e2 e3
theorem O.wo{x:V}(h:O x)(key:ByteArray):O (bq x key):=by
 rw[h.form]
 obtain⟨ks',vs',e1,e2,e3,_⟩:=LP (n:=0) (t:=⟨#[]⟩) h.len h.GU key
 rw[e1];exact .of e2 e3
theorem O.gY{x:V}(h:O x)(key:ByteArray)(y:V):aH (aQ x key y) key=(y,true):=by
 rw[h.form];exact Go.Proofs.YtonpfomjoiaacaaGreatDoor.gY h.len h.GU key y
theorem O.bZ{x:V}(h:O x){key other:ByteArray}(hne:other≠key)(y:V):aH (aQ x key y) other=aH x other:=by
 have e:=h.form
 rw[e];exact Go.Proofs.YtonpfomjoiaacaaGreatDoor.bZ h.len h.GU key other hne y
theorem O.mem{x:V}(h:O x){key:ByteArray}{v:V}:aH x key=(v,true)↔(key,v)∈x.ks.zip x.vs:=by
 have e:=h.form
 have hl:=h.len
 have ha:=h.GU
 generalize x.ks=ks at*
 generalize x.vs=vs at*
 subst e
 constructor
 ·intro hg
  cases hk:dF ks key with
  |none=>rw[get_none hl hk] at hg;simp at hg
  |some i=>
   rw[get_some hl hk] at hg
   have hi:i<ks.length:=by
    unfold dF at hk
    exact(List.findIdx?_eq_some_iff_getElem.1 hk).1
   have hv:vs.getD i zeroV=v:=(Prod.mk.inj hg).1
   rw[getD_at (by omega)] at hv
   have:(ks.zip vs)[i]'(by rw[List.length_zip];omega)=(key,v):=by rw[List.getElem_zip,CO hk hi,hv]
   rw[<-this];exact List.getElem_mem _
 ·intro hm
  obtain⟨i,hi,e⟩:=List.getElem_of_mem hm
  rw[List.length_zip] at hi
  rw[List.getElem_zip] at e
  have e1:ks[i]'(by omega)=key:=(Prod.mk.inj e).1
  have e2:vs[i]'(by omega)=v:=(Prod.mk.inj e).2
  have hk:=zV ha (by omega:i<ks.length)
  rw[e1] at hk
  rw[get_some hl hk,getD_at (by omega),e2]
theorem CW{x:V}{key:ByteArray}(h:(aH x key).2=false):aH x key=(zeroV,false):=by
 unfold aH at h⊢
 split
 ·rename_i i e;rw[e] at h;simp at h
 ·rfl
theorem O.has{x:V}(h:O x){key:ByteArray}:(aH x key).2=true↔key∈x.ks:=by
 constructor
 ·intro hg
  have:(key,(aH x key).1)∈x.ks.zip x.vs:=h.mem.1 (by rw[<-hg])
  exact(List.of_mem_zip this).1
 ·intro hm
  obtain⟨i,hi,e⟩:=List.getElem_of_mem hm
  have hl:=h.len
  have:(key,x.vs[i]'(by omega))∈x.ks.zip x.vs:=by
   have:(x.ks.zip x.vs)[i]'(by rw[List.length_zip];omega)=(key,x.vs[i]'(by omega)):=by rw[List.getElem_zip,e]
   rw[<-this];exact List.getElem_mem _
  rw[h.mem.2 this]
theorem O.G8{x:V}(h:O x)(key:ByteArray):aH (bq x key) key=(zeroV,false):=by
 rw[h.form]
 obtain⟨ks',vs',e1,e2,e3,e4,_⟩:=LP (n:=0) (t:=⟨#[]⟩) h.len h.GU key
 rw[e1];exact get_none e2 e4
theorem QZ{ks:List ByteArray}(h:Asc ks):ks.Pairwise (λa b=>eD a b=true):=List.pairwise_iff_getElem.2 λi j hi hj hij=>h i j hi hj hij
theorem pw_asc{ks:List ByteArray}(h:ks.Pairwise (λa b=>eD a b=true)):Asc ks:=λi j hi hj hij=>List.pairwise_iff_getElem.1 h i j hi hj hij
theorem pw_eq:∀{a b:List ByteArray},a.Pairwise (λa b=>eD a b=true)->b.Pairwise (λa b=>eD a b=true)->(∀s,s∈a↔s∈b)->a=b
 |[],[],_,_,_=>rfl
 |[],y::s,_,_,h=>absurd ((h y).2 (List.mem_cons_self ..)) (List.not_mem_nil)
 |x::r,[],_,_,h=>absurd ((h x).1 (List.mem_cons_self ..)) (List.not_mem_nil)
 |x::r,y::s,h1,h2,h=>by
  obtain⟨h1a,h1b⟩:=List.pairwise_cons.1 h1
  obtain⟨h2a,h2b⟩:=List.pairwise_cons.1 h2
  have hxy:x=y:=by
   rcases List.mem_cons.1 ((h x).1 (List.mem_cons_self ..)) with e|e
   ·exact e
   ·rcases List.mem_cons.1 ((h y).2 (List.mem_cons_self ..)) with e'|e'
    ·exact e'.symm
    ·have:=zU (h2a x e) (h1a y e')
     rw[xh] at this;cases this
  subst hxy
  have:r=s:=pw_eq h1b h2b λz=>by
   have hz:=h z
   rw[List.mem_cons,List.mem_cons] at hz
   constructor
   ·intro hm
    rcases hz.1 (.inr hm) with e|e
    ·subst e;have:=h1a _ hm;rw[xh] at this;cases this
    ·exact e
   ·intro hm
    rcases hz.2 (.inr hm) with e|e
    ·subst e;have:=h2a _ hm;rw[xh] at this;cases this
    ·exact e
  rw[this]
theorem O.ext{x y:V}(hx:O x)(hy:O y)(h:∀key,aH x key=aH y key):x=y:=by
 have hk:x.ks=y.ks:=pw_eq (QZ hx.GU) (QZ hy.GU) λs=>by rw[<-hx.has,<-hy.has,h s]
 have hv:x.vs=y.vs:=by
  have hl1:=hx.len
  have hl2:=hy.len
  apply List.ext_getElem (by rw[<-hl1,<-hl2,hk])
  intro i h1 h2
  have m1:(x.ks[i]'(by omega),x.vs[i])∈x.ks.zip x.vs:=by
   have:(x.ks.zip x.vs)[i]'(by rw[List.length_zip];omega)=(x.ks[i]'(by omega),x.vs[i]):=List.getElem_zip
   rw[<-this];exact List.getElem_mem _
  have m2:(y.ks[i]'(by omega),y.vs[i])∈y.ks.zip y.vs:=by
   have:(y.ks.zip y.vs)[i]'(by rw[List.length_zip];omega)=(y.ks[i]'(by omega),y.vs[i]):=List.getElem_zip
   rw[<-this];exact List.getElem_mem _
  have g1:=hx.mem.2 m1
  have g2:=hy.mem.2 m2
  have hki:x.ks[i]'(by omega)=y.ks[i]'(by omega):=by simp only[hk]
  rw[hki,h] at g1
  exact(Prod.mk.inj (g1.symm.trans g2)).1
 rw[hx.form,hy.form,hk,hv]
theorem Sj{x y:V}{a b:ByteArray}(h:∀v,aH x a=(v,true)↔aH y b=(v,true)):aH x a=aH y b:=by
 cases h1:(aH x a).2 with
 |true=>
  have:=(h (aH x a).1).1 (by rw[<-h1])
  rw[this,<-h1]
 |false=>
  cases h2:(aH y b).2 with
  |true=>
   have:=(h (aH y b).1).2 (by rw[<-h2])
   rw[this] at h1;cases h1
  |false=>rw[CW h1,CW h2]
theorem aap{α β:Type}(a:List α)(b:List β)(i:Nat)(h:a.length=b.length):(cutAt a i).zip (cutAt b i)=cutAt (a.zip b) i:=by
 unfold cutAt
 rw[List.zip_append (by rw[List.length_take,List.length_take,h])]
 simp only[List.zip,List.take_zipWith,List.drop_zipWith]
theorem O.pz{x:V}(h:O x){key other:ByteArray}(hne:other≠key):aH (bq x key) other=aH x other:=by
 refine Sj λv=>?_
 rw[(h.wo key).mem,h.mem]
 have e:=h.form
 have hl:=h.len
 have ha:=h.GU
 generalize x.ks=ks at*
 generalize x.vs=vs at*
 subst e
 cases hk:dF ks key with
 |none=>rw[Sa hl hk];exact Iff.rfl
 |some i=>
  rw[R9 hl hk]
  show(other,v)∈(cutAt ks i).zip (cutAt vs i)↔(other,v)∈ks.zip vs
  rw[aap _ _ _ hl]
  have hi:i<ks.length:=by
   unfold dF at hk
   exact(List.findIdx?_eq_some_iff_getElem.1 hk).1
  have hz:i<(ks.zip vs).length:=by rw[List.length_zip];omega
  have hp:(ks.zip vs)[i]=(key,vs[i]'(by omega)):=by rw[List.getElem_zip,CO hk hi]
  have hs:ks.zip vs=(ks.zip vs).take i++(key,vs[i]'(by omega))::(ks.zip vs).drop (i+1):=by
   rw[<-hp,<-List.drop_eq_getElem_cons hz,List.take_append_drop]
  unfold cutAt
  conv=>rhs;rw[hs]
  simp only[List.mem_append,List.mem_cons]
  constructor
  ·rintro(h|h)
   ·exact .inl h
   ·exact .inr (.inr h)
  ·rintro(h|h|h)
   ·exact .inl h
   ·exact absurd (Prod.mk.inj h).1 hne
   ·exact .inr h
theorem aaq(x:V)(h:x.ks.length=x.vs.length)(g:ByteArray->Bool):oL x.ks x.vs g (min x.ks.length x.vs.length)=(x.ks.zip x.vs).filter λp=>g p.1:=by
 unfold oL
 rw[List.take_of_length_le (by rw[List.length_zip];omega)]
theorem O.Jo{x:V}(h:O x)(g:ByteArray->Bool):jA x g=.mk 5 0 ⟨#[]⟩ (((x.ks.zip x.vs).filter λp=>g p.1).map (·.1)) (((x.ks.zip x.vs).filter λp=>g p.1).map (·.2)):=by
 unfold jA
 rw[aaq x h.len g]
theorem WB{α β:Type}(l:List (α×β)):(l.map (·.1)).zip (l.map (·.2))=l:=by
 induction l with
 |nil=>rfl
 |cons p r ih=>exact congrArg (List.cons p) ih
theorem O.pick{x:V}(h:O x)(g:ByteArray->Bool):O (jA x g):=by
 rw[h.Jo g]
 refine .of (by rw[List.length_map,List.length_map]) (pw_asc ?_)
 have h1:((x.ks.zip x.vs).map (·.1)).Pairwise (λa b=>eD a b=true):=by
  rw[show(x.ks.zip x.vs).map (·.1)=x.ks from List.map_fst_zip (by have:=h.len;omega)]
  exact QZ h.GU
 exact List.Pairwise.sublist (List.filter_sublist.map _) h1
theorem O.G9{x:V}(h:O x)(g:ByteArray->Bool)(key:ByteArray):aH (jA x g) key=if g key=true then aH x key else(zeroV,false):=by
 have hm:∀v,aH (jA x g) key=(v,true)↔(key,v)∈x.ks.zip x.vs/\g key=true:=λv=>by
  rw[(h.pick g).mem,h.Jo g]
  show(key,v)∈(List.map _ _).zip (List.map _ _)↔_
  rw[WB,List.mem_filter]
 by_cases hg:g key=true
 ·rw[if_pos hg]
  refine Sj λv=>?_
  rw[hm,h.mem]
  exact⟨λh=>h.1,λh=>⟨h,hg⟩⟩
 ·rw[if_neg hg]
  refine CW ?_
  cases h2:(aH (jA x g) key).2 with
  |false=>rfl
  |true=>exact absurd ((hm (aH (jA x g) key).1).1 (by rw[<-h2])).2 hg
theorem WC{x:V}{key:ByteArray}(h:(aH x key).1.k=5):(aH x key).2=true:=by
 cases h2:(aH x key).2 with
 |true=>rfl
 |false=>rw[CW h2] at h;cases h
theorem qQ:hasB dH aO=true:=by kernel_rfl
theorem O.u6{x:V}(h:O x):u6 x=(aH x aO).1:=by
 show(aH (jA x _) aO).1=_
 rw[h.G9,if_pos qQ]
theorem O.red{x:V}(h:O x):O (jT x):=by
 have h1:O (uZ x):=h.pick _
 unfold jT
 rw[if_pos h.k]
 split
 ·exact h1.with _ _
 ·exact h1
theorem O.LX{x:V}(h:O x)(key:ByteArray):aH (jT x) key=if hasB dH key=true then(if key=aO/\(aH x aO).1.k=5 then(jA (aH x aO).1 (gK (aH x dN).1.t),true) else aH x key) else(zeroV,false):=by
 have h1:O (uZ x):=h.pick _
 have hp:aH (uZ x) key=if hasB dH key=true then aH x key else(zeroV,false):=h.G9 _ key
 unfold jT
 rw[if_pos h.k,h.u6]
 by_cases h5:(aH x aO).1.k=5
 ·rw[if_pos h5]
  by_cases hk:key=aO
  ·subst hk
   rw[h1.gY,if_pos qQ,if_pos ⟨rfl,h5⟩]
  ·rw[h1.bZ hk,hp]
   simp only[hk,false_and,if_false]
 ·rw[if_neg h5,hp]
  simp only[h5,and_false,if_false]
theorem O.red_eq{x y:V}(hx:O x)(hy:O y)(h:∀key,hasB dH key=true->aH x key=aH y key):jT x=jT y:=by
 refine hx.red.ext hy.red λkey=>?_
 rw[hx.LX,hy.LX,<-h aO qQ,<-h dN (by kernel_rfl)]
 by_cases hf:hasB dH key=true
 ·rw[if_pos hf,if_pos hf,h key hf]
 ·rw[if_neg hf,if_neg hf]
theorem O.bare{x:V}(h:O x):O (fJ x):=(h.wo _).wo _
theorem O.Oj{x:V}(h:O x)(key:ByteArray):aH (fJ x) key=if key=aY\/key=cz then(zeroV,false) else aH x key:=by
 unfold fJ
 by_cases h2:key=cz
 ·subst h2;rw[(h.wo _).G8,if_pos (.inr U)]
 ·rw[(h.wo _).pz h2]
  by_cases h1:key=aY
  ·subst h1;rw[h.G8,if_pos (.inl U)]
  ·rw[h.pz h1,if_neg (by rintro(e|e);exact h1 e;exact h2 e)]
theorem O.bare_eq{x y:V}(hx:O x)(hy:O y)(h:∀key,key≠aY->key≠cz->aH x key=aH y key):fJ x=fJ y:=by
 refine hx.bare.ext hy.bare λkey=>?_
 rw[hx.Oj,hy.Oj]
 by_cases hk:key=aY\/key=cz
 ·rw[if_pos hk,if_pos hk]
 ·rw[if_neg hk,if_neg hk,h key (λe=>hk (.inl e)) (λe=>hk (.inr e))]
theorem O.hash_eq{x y:V}(hx:O x)(hy:O y)(h:∀key,key≠aY->key≠cz->aH x key=aH y key):ed x=ed y:=by unfold ed;rw[hx.bare_eq hy h]
theorem O.qR{x:V}(h:O x):O (dE x):=h.with _ _
theorem O.xA{x:V}(h:O x):ed (dE x)=ed x:=h.qR.hash_eq h λkey h1 _=>h.bZ h1 _
theorem Ug(t:ByteArray):aH (mV t) gM=(dz t,true):=Bn.gY gM (dz t)
theorem Jp{x:V}{t:ByteArray}(h:aH x aY=(mV t,true)):jN x=(t.toList==(ed x).toList):=by
 unfold jN
 rw[h]
 show gV (aH (mV t) gM).1 _=_
 rw[Ug]
 exact WA _ _
end Go.Proofs.YtonpfomjoiaacaaGreatDoor
end
