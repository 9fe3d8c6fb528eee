/- A part of the proof. -/
import Derived.Test.YtonpfomjoiaacaaGreatDoorMw31
set_option maxRecDepth 100000
set_option maxHeartbeats 4000000
set_option linter.unusedSectionVars false
set_option linter.unusedVariables false
set_option linter.unusedSimpArgs false
section
namespace Go.Proofs.YtonpfomjoiaacaaGreatDoor
open Go Go.iG Go.RowKit
theorem aar:∀{a b:List ByteArray},a.Sublist b->vg a<=vg b:=by
 intro a b h
 induction h with
 |slnil=>exact Nat.le_refl _
 |cons x h ih=>rw[vg];omega
 |cons_cons x h ih=>rw[vg,vg];omega
theorem WE:∀{a b:List V},a.Sublist b->eP a<=eP b:=by
 intro a b h
 induction h with
 |slnil=>exact Nat.le_refl _
 |cons x h ih=>rw[eP];omega
 |cons_cons x h ih=>rw[eP,eP];omega
theorem WG:∀(a:List ByteArray) (b:List V),vg ((a.zip b).map (·.1))<=vg a/\eP ((a.zip b).map (·.2))<=eP b
 |[],b=>⟨Nat.le_refl _,Nat.zero_le _⟩
 |x::r,[]=>⟨Nat.zero_le _,Nat.le_refl _⟩
 |x::r,y::s=>by
  have h:=WG r s
  show vg (x::(r.zip s).map (·.1))<=_/\eP (y::(r.zip s).map (·.2))<=_
  rw[vg,vg,eP,eP]
  have h1:=h.1
  have h2:=h.2
  exact⟨by omega,by omega⟩
theorem Wt.pick{N:Nat}{x:V}(h:Wt N x)(g:ByteArray->Bool):Wt (N+30) (jA x g):=by
 have s0:(oL x.ks x.vs g (min x.ks.length x.vs.length)).Sublist (x.ks.zip x.vs):=(List.filter_sublist).trans (List.take_sublist _ _)
 have h1:=aar (s0.map (·.1))
 have h2:=WE (s0.map (·.2))
 have h4:=WG x.ks x.vs
 have h3:=h.wt
 rw[G6 x] at h3
 unfold jA
 refine⟨vB (by decide) (λv hv=>?_),?_⟩
 ·obtain⟨p,hp,rfl⟩:=List.mem_map.1 hv
  exact h.num.kid (List.of_mem_zip (s0.subset hp)).2
 ·rw[j3]
  show 30+6*0+_+_<=_
  omega
theorem Wt.red{N:Nat}{x:V}(h:Wt N x)(hN:30<=N):Wt (2*N+200) (jT x):=by
 have h1:Wt (N+30) (uZ x):=h.pick _
 have h2:Wt (N+30) (u6 x):=h1.get (by omega) _
 unfold jT
 split
 ·split
  ·exact(h1.with (h2.pick _) (by decide:aO.size<=7)).up (by omega)
  ·exact h1.up (by omega)
 ·exact .leaf (by decide) (by show 30+6*0<=_;omega)
theorem Q0{x:V}(hx:Fits x)(key:ByteArray){y:V}(hy:Fits y)(h1:x.ks.length<=500000)(h2:x.vs.length<=500000):Fits (aQ x key y):=by
 have hw:=uY x key y
 have ho:(fw x).ks.length<=500000/\(fw x).vs.length<=500000:=by
  unfold fw
  split
  ·exact⟨h1,h2⟩
  ·exact⟨Nat.zero_le _,Nat.zero_le _⟩
 refine Fits.of (by omega) (by omega) λv hv=>?_
 have hfo:Fits (fw x):=hx.obj
 rcases uX hv with h|h
 ·generalize fw x=o at*
  cases hfo with|mk _ _ _ _ _ a b c=>exact c v h
 ·rw[h];exact hy
theorem Ol{x:V}(hx:Fits x)(hl:x.ks.length<=500000):Fits (jT x):=by
 have ho:Fits (uZ x):=yl hx _
 have hc:Fits (u6 x):=mR ho _
 have hpk:Fits (jA (u6 x) (gK (aH x dN).1.t)):=yl hc _
 have hsl:=LJ x.ks x.vs (hasB dH) (min x.ks.length x.vs.length)
 unfold jT
 split
 ·split
  ·refine Q0 ho aO hpk ?_ ?_
   ·show(List.map _ (oL x.ks x.vs (hasB dH) (min x.ks.length x.vs.length))).length<=_
    rw[List.length_map];omega
   ·show(List.map _ (oL x.ks x.vs (hasB dH) (min x.ks.length x.vs.length))).length<=_
    rw[List.length_map];omega
  ·exact ho
 ·exact kK _ _ _
theorem Ha(x:V):(ed x).size<=50:=by
 have h:=(nP (ry (bytesOf (aR (fJ x)))) (aK 3 11)).2
 have e:ed x=rX (ry (bytesOf (aR (fJ x)))) (aK 3 11):=by
  unfold ed dO
  rw[qI]
 rw[e]
 have:(aK 3 11).length=11:=by decide
 omega
theorem Wt.sealO(t:ByteArray)(ht:t.size<=50):Wt 500 (mV t):=by
 have h0:Wt 30 zeroV:=.leaf (by decide) (by decide)
 exact(h0.with (Wt.str (N:=330) (t:=t) (by omega)) (by decide:gM.size<=6)).up (by decide)
theorem Wt.qR{N:Nat}{x:V}(h:Wt N x):Wt (N+600) (dE x):=(h.with (Wt.sealO _ (Ha x)) (by decide:aY.size<=6)).up (by omega)
theorem Sk{x:V}(hf:Fits x)(hw:Wt 1000000000 x):Pr (fJ x):=⟨tX (tX hf _) _,((hw.without _).without _).num,((hw.without _).without _).wt⟩
theorem Sn{x:V}(hf:Fits x)(hw:Wt 1000000000 x):Pr x:=⟨hf,hw.num,hw.wt⟩
def lL:ByteArray:=⟨#[36]⟩
def oI(x:V):ByteArray:=lL++dO (ry (bytesOf (aR (jT x))))
theorem Q3(s:ByteArray)(hs:s.size<=1000000000)(H:Hp)(hN:Cx H):au Tryz.prog 91 [.v (.string s)] H (bB H (.v (.string (lL++dO (ry (bytesOf s)))))):=by
 have hbl:=rZ s
 have hbo:=vv s
 have hsl:=qI (bytesOf s)
 have hso:=El (bytesOf s)
 have htz:=(nP (ry (bytesOf s)) (aK 3 11)).2
 have htl:(aK 3 11).length=11:=by decide
 have hte:dO (ry (bytesOf s))=rX (ry (bytesOf s)) (aK 3 11):=by unfold dO;rw[qI]
 rw[<-hte] at htz
 have hds:(⟨#[36]⟩:ByteArray).size=1:=rfl
 unfold lL
 refine aF (n:=8) (H0:=H) (I:=[]) Tryz.func91 (by kernel_rfl) U (by rw[Tryz.ntmps91];rfl) .nil<|?_
 refine Q.rg<|Q.as U<|Q.nt<|Q.rg<|Q.mv U<|S.qu (Z.eq (u':=.sl (bC (bytesOf s))) (Z.s2b Tryz.underlying9 Tryz.underlying22 (by rfl) U (by omega)) (by rw[vz]))<|?_
 refine S.qu (Z.oV U U (λhd=>NI (bytesOf s) (by omega) hbo _ (hN.ext U)))<|S.qu (Z.oV U U (λhd=>GA (ry (bytesOf s)) (by omega) (by omega) hso _ (hN.ext U)))<|S.qu (Z.cat U U (by omega))<|Q.as U<|Q.nt<|UW.ret<|S.bH (λ_=>ak U U)<|?_
 rfl
theorem Om(s:ByteArray)(hs:s.size<=1000000000)(H:Hp)(hG:fA H):au Tryz.prog 91 [.v (.string s)] H (bB H (.v (.string (lL++dO (ry (bytesOf s)))))):=
 au.lowly hG.raw (Q3 s hs _ (Cx.raw hG.raw)) U
theorem Sq(x:V)(hx:Fits x)(hp:Pr (jT x))(H:Hp)(hG:fA H):au Tryz.prog 42 [.agg (aC x)] H (bB H (.v (.string (oI x)))):=by
 have hsz:=Er hp
 have hr:∀H,fA H->au Tryz.prog 92 [.agg (aC x)] H (bB H (.agg (aC (jT x)))):=λH h=>NT x hx H h
 have hpr:∀H,fA H->au Tryz.prog 66 [.agg (aC (jT x))] H (bB H (.v (.string (aR (jT x))))):=λH h=>vo (jT x) hp.fits hp H h
 have hid:∀H,fA H->au Tryz.prog 91 [.v (.string (aR (jT x)))] H (bB H (.v (.string (oI x)))):=λH h=>Om _ hsz H h
 generalize oI x=i at*
 generalize jT x=r at*
 generalize aR r=pt at*
 obtain⟨k,n,t,ks,vs⟩:=x
 refine aF (n:=7) (H0:=H) (I:=[]) Tryz.func42 (by kernel_rfl) U (by rw[Tryz.ntmps42];rfl) .nil<|?_
 refine Q.rg<|S.dd<|D.box U U U λp1=>Q.as U<|Q.nt<|Q.rg<|S.qu (Z.bW 0 av U U U)<|S.qu (Z.bK U U (λ_ hS=>hr _ (hG.mono hS)))<|S.qu (Z.bK U U (λ_ hS=>hpr _ (hG.mono hS)))<|S.qu (Z.bK U U (λ_ hS=>hid _ (hG.mono hS)))<|Q.as U<|Q.nt<|UW.ret<|S.bH (λ_=>ak U U)<|?_
 rfl
structure EV where
 id:ByteArray
 ty:ByteArray
 key:ByteArray
 is:Bool
 sender:ByteArray
 room:ByteArray
 prev:List ByteArray
 bL:List ByteArray
 depth:Int
 time:Int
 body:V
def gZ(e:EV):List AV:=[.v (.string e.id),.v (.string e.ty),.v (.string e.key),.v (.bool e.is),.v (.string e.sender),.v (.string e.room),strs e.prev,strs e.bL,.v (.int .i64 e.depth),.v (.int .i64 e.time)]++aC e.body
def fF:ByteArray:=⟨#[97,117,116,104,95,101,118,101,110,116,115]⟩
def dU:ByteArray:=⟨#[100,101,112,116,104]⟩
def iK:ByteArray:=⟨#[111,114,105,103,105,110,95,115,101,114,118,101,114,95,116,115]⟩
def fK:ByteArray:=⟨#[112,114,101,118,95,101,118,101,110,116,115]⟩
def fQ:ByteArray:=⟨#[114,111,111,109,95,105,100]⟩
def bQ:ByteArray:=⟨#[115,101,110,100,101,114]⟩
def dK:ByteArray:=⟨#[115,116,97,116,101,95,107,101,121]⟩
def lN:V:=.mk 5 0 ⟨#[]⟩ [] []
def dh(e:EV):List (ByteArray×V):=[(fF,fH e.bL),(aO,e.body),(dU,fu e.depth),(iK,fu e.time),(fK,fH e.prev),(fQ,dz e.room),(bQ,dz e.sender),(dN,dz e.ty)]++(if e.is=true then[(dK,dz e.key)] else[])
def dY(l:List (ByteArray×V)):V:=l.foldl (λv p=>aQ v p.1 p.2) lN
def iw(e:EV):V:=dY (dh e)
def aL(e:EV):V:=dE (iw e)
theorem lQ(l:List (ByteArray×V))(p:ByteArray×V):dY (l++[p])=aQ (dY l) p.1 p.2:=by unfold dY;rw[List.foldl_append];rfl
theorem xB{α:Type}{P:List α->Prop}(h0:P [])(h1:∀l a,P l->P (l++[a]))(l:List α):P l:=by
 rw[<-l.reverse_reverse]
 generalize l.reverse=r
 induction r with
 |nil=>exact h0
 |cons a r ih=>rw[List.reverse_cons];exact h1 _ _ ih
theorem vC(l:List (ByteArray×V)):O (dY l):=by
 refine xB (P:=λl=>O (dY l)) O.empty (λl p h=>?_) l
 rw[lQ];exact h.with _ _
theorem yA(l:List (ByteArray×V))(hn:(l.map (·.1)).Nodup)(key:ByteArray):(∀v,(key,v)∈l->aH (dY l) key=(v,true))/\(key∉l.map (·.1)->aH (dY l) key=(zeroV,false)):=by
 revert hn
 refine xB (P:=λl=>(l.map (·.1)).Nodup->(∀v,(key,v)∈l->aH (dY l) key=(v,true))/\(key∉l.map (·.1)->aH (dY l) key=(zeroV,false))) (λ_=>⟨λv h=>absurd h List.not_mem_nil,λ_=>rfl⟩) (λl p ih hn=>?_) l
 rw[List.map_append,List.nodup_append] at hn
 obtain⟨i1,i2⟩:=ih hn.1
 have hd:p.1∉l.map (·.1):=λh=>hn.2.2 p.1 h p.1 (by simp) U
 rw[lQ]
 constructor
 ·intro v hv
  rcases List.mem_append.1 hv with h|h
  ·have hne:key≠p.1:=λe=>hd (e▸List.mem_map.2 ⟨_,h,rfl⟩)
   rw[(vC l).bZ hne];exact i1 v h
  ·rw[List.mem_singleton] at h
   subst h
   exact(vC l).gY _ _
 ·intro hk
  rw[List.map_append] at hk
  have hne:key≠p.1:=λe=>hk (List.mem_append.2 (.inr (by simp[e])))
  rw[(vC l).bZ hne]
  exact i2 λh=>hk (List.mem_append.2 (.inl h))
theorem Hd{l m:List (ByteArray×V)}(hl:(l.map (·.1)).Nodup)(hm:(m.map (·.1)).Nodup)(h:∀p,p∈l↔p∈m):dY l=dY m:=by
 refine(vC l).ext (vC m) λkey=>?_
 obtain⟨a1,a2⟩:=yA l hl key
 obtain⟨b1,b2⟩:=yA m hm key
 by_cases hk:key∈l.map (·.1)
 ·obtain⟨p,hp,rfl⟩:=List.mem_map.1 hk
  rw[a1 p.2 hp,b1 p.2 ((h p).1 hp)]
 ·rw[a2 hk,b2 λhq=>hk (by obtain⟨p,hp,e⟩:=List.mem_map.1 hq;exact List.mem_map.2 ⟨p,(h p).2 hp,e⟩)]
def Bt(is:Bool):List ByteArray:=[fF,aO,dU,iK,fK,fQ,bQ,dN]++(if is=true then[dK] else[])
theorem DF(e:EV):(dh e).map (·.1)=Bt e.is:=by
 unfold dh Bt
 rw[List.map_append]
 split<;>rfl
theorem yP(is:Bool):(Bt is).Nodup:=by cases is<;>decide
theorem pE(e:EV):((dh e).map (·.1)).Nodup:=by rw[DF];exact yP _
theorem lH(e:EV):O (iw e):=vC _
theorem lS(e:EV):O (aL e):=(lH e).qR
theorem Q4{e:EV}{key:ByteArray}{v:V}(h:(key,v)∈dh e):aH (iw e) key=(v,true):=(yA _ (pE e) key).1 v h
theorem mW{e:EV}{key:ByteArray}{v:V}(h:(key,v)∈dh e)(hk:key≠aY):aH (aL e) key=(v,true):=((lH e).bZ hk _).trans (Q4 h)
theorem oF{e:EV}{p:ByteArray×V}(h:p∈[(fF,fH e.bL),(aO,e.body),(dU,fu e.depth),(iK,fu e.time),(fK,fH e.prev),(fQ,dz e.room),(bQ,dz e.sender),(dN,dz e.ty)]):p∈dh e:=List.mem_append.2 (.inl h)
theorem Q5{e:EV}(h:e.is=true):(dK,dz e.key)∈dh e:=List.mem_append.2 (.inr (by rw[if_pos h];simp))
theorem Uh{e:EV}{key:ByteArray}(h:key∉Bt e.is)(hk:key≠aY):aH (aL e) key=(zeroV,false):=((lH e).bZ hk _).trans ((yA _ (pE e) key).2 (by rw[DF];exact h))
theorem Oo(e:EV):aH (aL e) aY=(mV (ed (iw e)),true):=(lH e).gY _ _
def r9(v:V)(key:ByteArray)(k:Int):Bool:=(aH v key).2&&decide ((aH v key).1.k=k)
def fC(x:V):List ByteArray:=x.vs.map λy=>if y.k=3 then y.t else⟨#[]⟩
def oP(s:ByteArray):Bool:=decide (s.size≠0)&&decide (s.size<=80)
def WH(v:V):EV where
 id:=⟨#[]⟩
 ty:=(aH v dN).1.t
 key:=if (aH v dK).2=true then(aH v dK).1.t else⟨#[]⟩
 is:=(aH v dK).2
 sender:=(aH v bQ).1.t
 room:=(aH v fQ).1.t
 prev:=fC (aH v fK).1
 bL:=fC (aH v fF).1
 depth:=(aH v dU).1.n
 time:=(aH v iK).1.n
 body:=(aH v aO).1
def zeroE:EV:=⟨⟨#[]⟩,⟨#[]⟩,⟨#[]⟩,false,⟨#[]⟩,⟨#[]⟩,[],[],0,0,zeroV⟩
section
variable (qU lT:ByteArray->Bool) (kL:List ByteArray->Bool)
def Sr(v:V):Bool:=
 (r9 v dN 3&&oP (aH v dN).1.t)&&(r9 v bQ 3&&qU (aH v bQ).1.t)&&(r9 v fQ 3&&lT (aH v fQ).1.t)&&(r9 v fK 4&&kL (fC (aH v fK).1))&&(r9 v fF 4&&kL (fC (aH v fF).1))&&
 (r9 v dU 2&&decide (0<=(aH v dU).1.n))&&(r9 v iK 2&&decide (0<=(aH v iK).1.n))&&r9 v aO 5&&r9 v aY 5&&(!(aH v dK).2||(decide ((aH v dK).1.k=3)&&decide ((aH v dK).1.t.size<=80)))
def xC(v:V):EV×Int:=
 if Sr qU lT kL v=false then(zeroE,15) else if 32<cZ v then(zeroE,12) else if 65536<(aR v).size then(zeroE,3) else if jN v=false then(zeroE,17) else({WH v with id:=oI v},0)
theorem ok_no{v:V}{key:ByteArray}{k:Int}(hk:(key,k)∈[(dN,3),(bQ,3),(fQ,3),(fK,4),(fF,4),(dU,2),(iK,2),(aO,5),(aY,(5:Int))])(h:r9 v key k=false):Sr qU lT kL v=false:=by
 unfold Sr
 simp only[List.mem_cons,Prod.mk.injEq,List.not_mem_nil,or_false] at hk
 rcases hk with ⟨rfl,rfl⟩|⟨rfl,rfl⟩|⟨rfl,rfl⟩|⟨rfl,rfl⟩|⟨rfl,rfl⟩|⟨rfl,rfl⟩|⟨rfl,rfl⟩|⟨rfl,rfl⟩|⟨rfl,rfl⟩<;>rw[h]<;>simp
end
theorem kM(l:List ByteArray):fC (fH l)=l:=by
 show(l.map dz).map (λy=>if y.k=3 then y.t else⟨#[]⟩)=l
 rw[List.map_map]
 have:((λy:V=>if y.k=3 then y.t else⟨#[]⟩)∘dz)=id:=by
  funext s
  show(if (3:Int)=3 then s else⟨#[]⟩)=s
  rw[if_pos U]
 rw[this,List.map_id]
structure vX(v:V)(e:EV):Prop where
 ty:aH v dN=(dz e.ty,true)
 sender:aH v bQ=(dz e.sender,true)
 room:aH v fQ=(dz e.room,true)
 prev:aH v fK=(fH e.prev,true)
 bL:aH v fF=(fH e.bL,true)
 depth:aH v dU=(fu e.depth,true)
 time:aH v iK=(fu e.time,true)
 body:aH v aO=(e.body,true)
 hash:∃t,aH v aY=(mV t,true)
 st:aH v dK=if e.is=true then(dz e.key,true) else(zeroV,false)
theorem fD(e:EV):vX (aL e) e where
 ty:=mW (oF (by simp)) (by decide)
 sender:=mW (oF (by simp)) (by decide)
 room:=mW (oF (by simp)) (by decide)
 prev:=mW (oF (by simp)) (by decide)
 bL:=mW (oF (by simp)) (by decide)
 depth:=mW (oF (by simp)) (by decide)
 time:=mW (oF (by simp)) (by decide)
 body:=mW (oF (by simp)) (by decide)
 hash:=⟨_,Oo e⟩
 st:=by
  by_cases h:e.is=true
  ·rw[if_pos h];exact mW (Q5 h) (by decide)
  ·rw[if_neg h]
   refine Uh (λhm=>?_) (by decide)
   have he:e.is=false:=by simpa using h
   rw[he] at hm
   have hn:([fF,aO,dU,iK,fK,fQ,bQ,dN]++[dK]).Nodup:=yP true
   have hm2:dK∈[fF,aO,dU,iK,fK,fQ,bQ,dN]:=by simpa[Bt] using hm
   exact(List.nodup_append.1 hn).2.2 _ hm2 _ (List.mem_singleton.2 U) U
theorem vX.with{v:V}{e:EV}(h:vX v e)(ho:O v){key:ByteArray}(hk:hasB (dN::bQ::fQ::fK::fF::dU::iK::aO::aY::dK::[]) key=false)(y:V):vX (aQ v key y) e:=by
 have hk:key∉dN::bQ::fQ::fK::fF::dU::iK::aO::aY::dK::[]:=λh=>by rw[kJ.2 h] at hk;cases hk
 simp only[List.mem_cons,List.not_mem_nil,or_false,not_or] at hk
 obtain⟨h1,h2,h3,h4,h5,h6,h7,h8,h9,h10⟩:=hk
 exact⟨(ho.bZ (Ne.symm h1) _).trans h.ty,(ho.bZ (Ne.symm h2) _).trans h.sender,(ho.bZ (Ne.symm h3) _).trans h.room,(ho.bZ (Ne.symm h4) _).trans h.prev,(ho.bZ (Ne.symm h5) _).trans h.bL,(ho.bZ (Ne.symm h6) _).trans h.depth,(ho.bZ (Ne.symm h7) _).trans h.time,(ho.bZ (Ne.symm h8) _).trans h.body,by obtain⟨t,ht⟩:=h.hash;exact⟨t,(ho.bZ (Ne.symm h9) _).trans ht⟩,(ho.bZ (Ne.symm h10) _).trans h.st⟩
theorem vX.qR{v:V}{e:EV}(h:vX v e)(ho:O v):vX (dE v) e:=by
 have g:∀key,key≠aY->aH (dE v) key=aH v key:=λkey hk=>ho.bZ hk _
 exact⟨(g _ (by decide)).trans h.ty,(g _ (by decide)).trans h.sender,(g _ (by decide)).trans h.room,(g _ (by decide)).trans h.prev,(g _ (by decide)).trans h.bL,(g _ (by decide)).trans h.depth,(g _ (by decide)).trans h.time,(g _ (by decide)).trans h.body,⟨_,ho.gY _ _⟩,(g _ (by decide)).trans h.st⟩
def Bu(qU lT:ByteArray->Bool)(kL:List ByteArray->Bool)(e:EV):Bool:=oP e.ty&&qU e.sender&&lT e.room&&kL e.prev&&kL e.bL&&decide (0<=e.depth)&&decide (0<=e.time)&&(!e.is||decide (e.key.size<=80))
theorem vD{v:V}{key:ByteArray}{x:V}{k:Int}(h:aH v key=(x,true))(hk:x.k=k):r9 v key k=true:=by unfold r9;rw[h];show(true&&decide (x.k=k))=true;rw[decide_eq_true hk];rfl
theorem vX.ok{v:V}{e:EV}(h:vX v e)(h5:e.body.k=5)(qU lT:ByteArray->Bool)(kL:List ByteArray->Bool):Sr qU lT kL v=Bu qU lT kL e:=by
 obtain⟨t,ht⟩:=h.hash
 unfold Sr Bu
 rw[vD (k:=3) h.ty U,vD (k:=3) h.sender U,vD (k:=3) h.room U,vD (k:=4) h.prev U,vD (k:=4) h.bL U,vD (k:=2) h.depth U,vD (k:=2) h.time U,vD (k:=5) h.body h5,vD (k:=5) ht U,h.ty,h.sender,h.room,h.prev,h.bL,h.depth,h.time,h.st,kM,kM]
 simp only[Bool.true_and,Bool.and_true]
 congr 1
 by_cases hi:e.is=true
 ·rw[if_pos hi,hi];rfl
 ·have:e.is=false:=by simpa using hi
  rw[if_neg hi,this];rfl
def nS(e:EV):EV:={e with id:=⟨#[]⟩,key:=if e.is=true then e.key else⟨#[]⟩}
theorem vX.ev{v:V}{e:EV}(h:vX v e):WH v=nS e:=by
 unfold WH nS
 rw[h.ty,h.sender,h.room,h.prev,h.bL,h.depth,h.time,h.body,h.st,kM,kM]
 by_cases hi:e.is=true
 ·rw[if_pos hi,hi];rfl
 ·have:e.is=false:=by simpa using hi
  rw[if_neg hi,this];rfl
theorem He{v:V}(h:O v){key:ByteArray}(hk:aY≠key)(x:V):jN (aQ (dE v) key x)=((ed (aQ (dE v) key x)).toList==(ed v).toList):=by
 rw[Jp ((h.qR.bZ hk x).trans (h.gY _ _))]
 cases h1:((ed v).toList==(ed (aQ (dE v) key x)).toList) with
 |true=>have:=eq_of_beq h1;simp[this]
 |false=>
  cases h2:((ed (aQ (dE v) key x)).toList==(ed v).toList) with
  |false=>rfl
  |true=>have:=eq_of_beq h2;rw[this] at h1;simp at h1
theorem Ir{v:V}(h:O v)(x:V):jN (aQ (dE v) cz x)=true:=by
 rw[He h (by decide) x]
 have:ed (aQ (dE v) cz x)=ed v:=((h.qR.with _ _).hash_eq h.qR λkey _ h2=>h.qR.bZ h2 _).trans h.xA
 rw[this];simp
theorem DI{v:V}(h:O v):jN (dE v)=true:=by
 have e:aH (dE v) aY=(mV (ed v),true):=h.gY _ _
 rw[Jp e,h.xA];simp
theorem aas{x:V}(h:dS x=true)(h5:x.k=5):O x/\(∀s∈x.ks,RN s<0)/\∀v∈x.vs,dS v=true:=by
 obtain⟨k,n,t,ks,vs⟩:=x
 have hk:k=5:=h5
 subst hk
 have hv:=GH h
 obtain⟨h1,h2,h3,h4,_⟩:=Je.1 h
 obtain⟨h6,h7⟩:=TW h3
 have ht:t=⟨#[]⟩:=by
  by_cases he:t.toList=(⟨#[]⟩:ByteArray).toList
  ·exact gI he
  ·unfold sK at h2;rw[gG he] at h2;cases h2
 exact⟨⟨rfl,h1,ht,h4,h6⟩,h7,hv⟩
theorem O.right{x:V}(h:O x)(hk:∀s∈x.ks,RN s<0)(hv:∀v∈x.vs,dS v=true):dS x=true:=by
 rw[h.form]
 exact Je.2 ⟨rfl,by kernel_rfl,TY h.GU hk,h.len,Dp λi hi=>hv _ (List.getElem_mem hi)⟩
theorem Jq{x:V}(h:O x)(key:ByteArray)(y:V):(∀s∈(aQ x key y).ks,s∈x.ks\/s=key)/\∀v∈(aQ x key y).vs,v∈x.vs\/v=y:=by
 have e:=h.form
 obtain⟨ks',vs',e1,e2,e3,e4,e5⟩:=CP (n:=0) (t:=⟨#[]⟩) h.len h.GU key y
 rw[<-e] at e1
 rw[e1]
 exact⟨e4,e5⟩
theorem Q6{x:V}(h:O x)(hr:dS x=true){key:ByteArray}(hk:RN key<0){y:V}(hy:dS y=true):dS (aQ x key y)=true:=by
 obtain⟨_,h1,h2⟩:=aas hr h.k
 obtain⟨h3,h4⟩:=Jq h key y
 exact(h.with key y).right (λs hs=>(h3 s hs).elim (h1 s) (λe=>e▸hk)) (λv hv=>(h4 v hv).elim (h2 v) (λe=>e▸hy))
theorem Oq:dS (.mk 5 0 ⟨#[]⟩ [] [])=true:=by kernel_rfl
theorem Hf{p:ByteArray->Bool}{l:List ByteArray}(h:l.all p=true)(h0:p ⟨#[]⟩=true)(i:Nat):p (l.getD i ⟨#[]⟩)=true:=by
 by_cases hi:i<l.length
 ·exact List.all_eq_true.1 h _ (fI hi)
 ·simp only[List.getD,List.getElem?_eq_none (Nat.le_of_not_lt hi)];exact h0
def chkB(s:ByteArray):Bool:=decide (RN s<0)
def rgtB(s:ByteArray):Bool:=dS (dz s)
theorem Ot(c:List Int)(hc:wy c)(k:Int)(j:Nat):dS (qP c k j)=true:=by
 have hb:=oC hc j
 unfold qP
 repeat' split
 ·exact Hf (p:=rgtB) (by kernel_rfl) (by kernel_rfl) _
 ·exact Hf (p:=rgtB) (by kernel_rfl) (by kernel_rfl) _
 ·exact NP _ _ (Jn _).1
 ·have h1:=Int.tmod_nonneg 120 hb.1
  have h2:=Int.tmod_lt_of_pos (c.getD j 0) (by decide:(0:Int)<120)
  exact I1 (by decide) (by decide) ⟨λh=>absurd h (by decide),λ_=>by omega,λ_ h=>absurd U h⟩ (by kernel_rfl) (by kernel_rfl) (by decide) (by kernel_rfl)
theorem xD(c:List Int)(hc:wy c)(k:Int):∀j,O (xz c k j)/\dS (xz c k j)=true
 |0=>⟨O.empty,Oq⟩
 |j+1=>by
  obtain⟨h1,h2⟩:=xD c hc k j
  exact⟨h1.with _ _,Q6 h1 h2 (of_decide_eq_true (Hf (p:=chkB) (by kernel_rfl) (by kernel_rfl) _)) (Ot c hc k j)⟩
theorem Jr{x:V}(h:O x)(kind:ByteArray):∀j,j<=x.ks.length->O (qN kind x j)/\∀key,(key∈x.ks.take j/\gK kind key=false->aH (qN kind x j) key=(zeroV,false))/\(¬(key∈x.ks.take j/\gK kind key=false)->aH (qN kind x j) key=aH x key)
 |0,_=>⟨h,λkey=>⟨λe=>absurd e.1 List.not_mem_nil,λ_=>rfl⟩⟩
 |j+1,hj=>by
  obtain⟨h1,h2⟩:=Jr h kind j (by omega)
  have ht:∀key,key∈x.ks.take (j+1)↔key∈x.ks.take j\/key=x.ks.getD j ⟨#[]⟩:=λkey=>by
   rw[List.take_add_one,List.getElem?_eq_getElem (show j<x.ks.length by omega),List.mem_append,getD_at (show j<x.ks.length by omega)]
   simp
  unfold qN
  by_cases hk:gK kind (x.ks.getD j ⟨#[]⟩)=true
  ·rw[if_pos hk]
   refine⟨h1,λkey=>⟨λe=>(h2 key).1 ⟨((ht key).1 e.1).elim id (λe1=>?_),e.2⟩,λe=>(h2 key).2 λe1=>e ⟨(ht key).2 (.inl e1.1),e1.2⟩⟩⟩
   rw[e1,hk] at e;cases e.2
  ·rw[if_neg hk]
   have Xo:gK kind (x.ks.getD j ⟨#[]⟩)=false:=by simpa using hk
   refine⟨h1.wo _,λkey=>?_⟩
   by_cases he:key=x.ks.getD j ⟨#[]⟩
   ·subst he
    exact⟨λ_=>h1.G8 _,λe=>absurd ⟨(ht _).2 (.inr U),Xo⟩ e⟩
   ·rw[h1.pz he]
    exact⟨λe=>(h2 key).1 ⟨((ht key).1 e.1).elim id (λe1=>absurd e1 he),e.2⟩,λe=>(h2 key).2 λe1=>e ⟨(ht key).2 (.inl e1.1),e1.2⟩⟩
theorem Ui{x:V}(h:O x)(kind:ByteArray):Bl kind x=jA x (gK kind):=by
 obtain⟨h1,h2⟩:=Jr h kind x.ks.length (Nat.le_refl _)
 refine O.ext h1 (h.pick _) λkey=>?_
 have h2:=h2 key
 rw[List.take_length] at h2
 rw[h.G9]
 cases hk:gK kind key with
 |true=>rw[if_pos U];exact h2.2 λe=>by rw[hk] at e;cases e.2
 |false=>
  rw[if_neg (show ¬(false=true) by decide)]
  by_cases hm:key∈x.ks
  ·exact h2.1 ⟨hm,hk⟩
  ·refine(h2.2 λe=>hm e.1).trans<|CW<|?_
   cases e:(aH x key).2 with
   |false=>rfl
   |true=>exact absurd (h.has.1 e) hm
def Q7(x:V)(key:ByteArray):V:=if key=aO/\(aH x key).1.k=5 then Bl (aH x dN).1.t (aH x key).1 else(aH x key).1
theorem Ou(x:V):∀j,j<=10->O (yI x j)/\∀key,(key∈dH.take j/\(aH x key).2=true->aH (yI x j) key=(Q7 x key,true))/\(¬(key∈dH.take j/\(aH x key).2=true)->aH (yI x j) key=(zeroV,false))
 |0,_=>⟨O.empty,λkey=>⟨λe=>absurd e.1 List.not_mem_nil,λ_=>rfl⟩⟩
 |j+1,hj=>by
  obtain⟨h1,h2⟩:=Ou x j (by omega)
  have hl:j<dH.length:=by show j<10;omega
  have ht:∀key,key∈dH.take (j+1)↔key∈dH.take j\/key=dH.getD j ⟨#[]⟩:=λkey=>by
   rw[List.take_add_one,List.getElem?_eq_getElem hl,List.mem_append,getD_at hl]
   simp
  have hs:yI x (j+1)=if (aH x (dH.getD j ⟨#[]⟩)).2=true then aQ (yI x j) (dH.getD j ⟨#[]⟩) (Q7 x (dH.getD j ⟨#[]⟩)) else yI x j:=rfl
  rw[hs]
  by_cases hb:(aH x (dH.getD j ⟨#[]⟩)).2=true
  ·rw[if_pos hb]
   refine⟨h1.with _ _,λkey=>?_⟩
   by_cases he:key=dH.getD j ⟨#[]⟩
   ·subst he
    exact⟨λ_=>h1.gY _ _,λe=>absurd ⟨(ht _).2 (.inr U),hb⟩ e⟩
   ·rw[h1.bZ he]
    exact⟨λe=>(h2 key).1 ⟨((ht key).1 e.1).elim id (λe1=>absurd e1 he),e.2⟩,λe=>(h2 key).2 λe1=>e ⟨(ht key).2 (.inl e1.1),e1.2⟩⟩
  ·rw[if_neg hb]
   refine⟨h1,λkey=>⟨λe=>(h2 key).1 ⟨((ht key).1 e.1).elim id (λe1=>?_),e.2⟩,λe=>(h2 key).2 λe1=>e ⟨(ht key).2 (.inl e1.1),e1.2⟩⟩⟩
   rw[e1] at e
   exact absurd e.2 hb
theorem aat{x:V}(h:x.k=5->O x/\((aH x aO).1.k=5->O (aH x aO).1)):Ip x=jT x:=by
 by_cases h5:x.k=5
 ·obtain⟨ho,hc⟩:=h h5
  obtain⟨h1,h2⟩:=Ou x 10 (Nat.le_refl _)
  have e:Ip x=yI x 10:=by unfold Ip;rw[if_pos h5]
  rw[e]
  refine O.ext h1 ho.red λkey=>?_
  have h2:=h2 key
  rw[ho.LX]
  have hm:key∈dH.take 10↔hasB dH key=true:=kJ.symm
  by_cases hf:hasB dH key=true
  ·rw[if_pos hf]
   cases hi:(aH x key).2 with
   |true=>
    refine(h2.1 ⟨hm.2 hf,hi⟩).trans<|?_
    unfold Q7
    by_cases hk:key=aO/\(aH x aO).1.k=5
    ·obtain⟨rfl,hk5⟩:=hk
     rw[if_pos ⟨rfl,hk5⟩,if_pos ⟨rfl,hk5⟩,Ui (hc hk5)]
    ·have hk':¬(key=aO/\(aH x key).1.k=5):=λe=>hk ⟨e.1,by rw[<-e.1];exact e.2⟩
     rw[if_neg hk,if_neg hk',<-hi]
   |false=>
    refine(h2.2 (λe=>by rw[hi] at e;cases e.2)).trans<|?_
    have hne:¬(key=aO/\(aH x aO).1.k=5):=λe=>by
     have h3:=WC e.2
     rw[<-e.1,hi] at h3
     cases h3
    rw[if_neg hne,CW hi]
  ·rw[if_neg hf]
   exact h2.2 λe=>hf (hm.1 e.1)
 ·unfold Ip jT
  rw[if_neg h5,if_neg h5]
theorem zZ(x:V)(hx:Fits x)(hp:Pr (fJ x))(H:Hp):au Tryz.prog 22 [.agg (aC x)] H (bB H (.v (.string (ed x)))):=by
 have hf1:=tX hx aY
 have hf2:Fits (fJ x):=tX hf1 cz
 have hsz:=Er hp
 have hbl:=rZ (aR (fJ x))
 have hbo:=vv (aR (fJ x))
 have hsl:=qI (bytesOf (aR (fJ x)))
 have hso:=El (bytesOf (aR (fJ x)))
 have hw1:∀H,au Tryz.prog 16 [.agg (aC x),.v (.string aY)] H (bB H (.agg (aC (bq x aY)))):=λH=>nX x hx aY H
 have hw2:∀H,au Tryz.prog 16 [.agg (aC (bq x aY)),.v (.string cz)] H (bB H (.agg (aC (fJ x)))):=λH=>nX _ hf1 cz H
 have hpr:∀H,au Tryz.prog 37 [.agg (aC (fJ x))] H (bB H (.v (.string (aR (fJ x))))):=λH=>xy (fJ x) hf2 hp H
 unfold ed
 generalize bq x aY=w1 at*
 generalize fJ x=w2 at*
 generalize aR w2=pt at*
 obtain⟨k,n,t,ks,vs⟩:=x
 refine aF (n:=12) (H0:=H) (I:=[]) Tryz.func22 (by kernel_rfl) U (by rw[Tryz.ntmps22];rfl) .nil<|?_
 refine Q.rg<|S.dd<|D.box U U U λp1=>Q.as U<|Q.nt<|Q.rg<|S.qu (Z.bW 0 av U U U)<|S.qu (Z.call U U (λH=>hw1 H))<|S.qu (Z.call U U (λH=>hw2 H))<|S.qu (Z.call U U (λH=>hpr H))<|Q.as U<|Q.nt<|Q.rg<|Q.mv U<|S.qu (Z.eq (u':=.sl (bC (bytesOf pt))) (Z.s2b Tryz.underlying9 Tryz.underlying22 (by rfl) U (by omega)) (by rw[vz]))<|?_
 refine S.qu (Z.call U U (λH=>I8 (bytesOf pt) (by omega) hbo H))<|S.qu (Z.call U U (λH=>xg (ry (bytesOf pt)) (by omega) hso H))<|Q.as U<|Q.nt<|UW.ret<|S.bH (λ_=>ak U U)<|?_
 rfl
theorem vE(x:V)(hx:Fits x)(hk:∀s∈x.ks,s.size<=4000000)(hp:Pr (fJ x))(H:Hp):au Tryz.prog 17 [.agg (aC x)] H (bB H (.agg (aC (dE x)))):=by
 have hh:∀H,au Tryz.prog 22 [.agg (aC x)] H (bB H (.v (.string (ed x)))):=λH=>zZ x hx hp H
 have hw2:∀H,au Tryz.prog 18 [.agg (aC x),.v (.string aY),.agg (aC (mV (ed x)))] H (bB H (.agg (aC (dE x)))):=λH=>jb x hx hk aY _ H
 generalize dE x=sx at*
 generalize ed x=h at*
 obtain⟨k,n,t,ks,vs⟩:=x
 refine aF (n:=13) (H0:=H) (I:=[]) Tryz.func17 (by kernel_rfl) U (by rw[Tryz.ntmps17];rfl) .nil<|?_
 refine Q.rg<|S.dd<|D.box U U U λp1=>S.dd<|D.al z26 U U U λp2=>Q.nt<|Q.rg<|S.qu (Z.eq (u':=strs [gM]) (Z.bl dQ U U (bz U)) U)<|S.qu (Z.bW 1 av U U U)<|S.qu (Z.call U U (λH=>hh H))<|S.qu (Z.call U U (λH=>jq h H))<|S.qu (Z.eq (u':=.sl (bu [dz h])) (Z.bl jw U U (bz U)) U)<|S.qu (Z.eq (u':=.agg (aC (mV h))) (Z.bd [0,3,4] gU U U U U U U) U)<|S.dd<|D.al z26 U U U λp3=>S.s<|D.st 0 av U U U U U U U U λ_=>Q.nt<|Q.rg<|S.qu (Z.bW 2 av U U U)<|S.qu (Z.bW 0 av U U U)<|S.qu (Z.call U U (λH=>hw2 H))<|S.s<|D.vW 1 av U U U U (by exact az _) (Y _) U U λ_=>?_
 refine Q.nt<|UW.ret<|S.bH (λhd=>aX (k:=1) hd U U U gQ (by rw[Y];exact gT))<|?_
 rfl
theorem WI(s:ByteArray)(hs:s.size<=1000000000)(H:Hp):au Tryz.prog 115 [.v (.string s)] H (bB H (.v (.string (lL++dO (ry (bytesOf s)))))):=by
 have hbl:=rZ s
 have hbo:=vv s
 have hsl:=qI (bytesOf s)
 have hso:=El (bytesOf s)
 have htz:=(nP (ry (bytesOf s)) (aK 3 11)).2
 have htl:(aK 3 11).length=11:=by decide
 have hte:dO (ry (bytesOf s))=rX (ry (bytesOf s)) (aK 3 11):=by unfold dO;rw[qI]
 rw[<-hte] at htz
 have hds:(⟨#[36]⟩:ByteArray).size=1:=rfl
 unfold lL
 refine aF (n:=8) (H0:=H) (I:=[]) Tryz.func115 (by kernel_rfl) U (by rw[Tryz.ntmps115];rfl) .nil<|?_
 refine Q.rg<|Q.as U<|Q.nt<|Q.rg<|Q.mv U<|S.qu (Z.eq (u':=.sl (bC (bytesOf s))) (Z.s2b Tryz.underlying9 Tryz.underlying22 (by rfl) U (by omega)) (by rw[vz]))<|?_
 refine S.qu (Z.call U U (λH=>I8 (bytesOf s) (by omega) hbo H))<|S.qu (Z.call U U (λH=>xg (ry (bytesOf s)) (by omega) hso H))<|S.qu (Z.cat U U (by omega))<|Q.as U<|Q.nt<|UW.ret<|S.bH (λ_=>ak U U)<|?_
 rfl
theorem WJ(x:V)(hx:Fits x)(hp:Pr (jT x))(he:Ip x=jT x)(H:Hp):au Tryz.prog 79 [.agg (aC x)] H (bB H (.v (.string (oI x)))):=by
 have hsz:=Er hp
 have hr:∀H,au Tryz.prog 89 [.agg (aC x)] H (bB H (.agg (aC (jT x)))):=λH=>he▸LU x hx H
 have hpr:∀H,au Tryz.prog 37 [.agg (aC (jT x))] H (bB H (.v (.string (aR (jT x))))):=λH=>xy (jT x) hp.fits hp H
 have hid:∀H,au Tryz.prog 115 [.v (.string (aR (jT x)))] H (bB H (.v (.string (oI x)))):=λH=>WI _ hsz H
 clear he
 generalize oI x=i at*
 generalize jT x=r at*
 generalize aR r=pt at*
 obtain⟨k,n,t,ks,vs⟩:=x
 refine aF (n:=7) (H0:=H) (I:=[]) Tryz.func79 (by kernel_rfl) U (by rw[Tryz.ntmps79];rfl) .nil<|?_
 refine Q.rg<|S.dd<|D.box U U U λp1=>Q.as U<|Q.nt<|Q.rg<|S.qu (Z.bW 0 av U U U)<|S.qu (Z.call U U (λH=>hr H))<|S.qu (Z.call U U (λH=>hpr H))<|S.qu (Z.call U U (λH=>hid H))<|Q.as U<|Q.nt<|UW.ret<|S.bH (λ_=>ak U U)<|?_
 rfl
def Hg(l:List (ByteArray×V)):Nat:=(l.map λp=>tV p.2+6*p.1.size+5).sum
theorem Ov(l:List (ByteArray×V)):(∀p∈l,lG p.2)->Wt (30+Hg l) (dY l):=by
 refine xB (P:=λl=>(∀p∈l,lG p.2)->Wt (30+Hg l) (dY l)) (λ_=> .leaf (by decide) (by decide)) (λl p ih h=>?_) l
 rw[lQ]
 have h1:=ih λq hq=>h q (List.mem_append.2 (.inl hq))
 have h2:Wt (tV p.2) p.2:=⟨h p (by simp),Nat.le_refl _⟩
 refine(h1.with h2 (Nat.le_refl p.1.size)).up ?_
 unfold Hg
 rw[List.map_append,List.sum_append]
 simp
 omega
theorem Bv(l:List (ByteArray×V)):(∀p∈l,Fits p.2/\p.1.size<=4000000)->Ev (dY l) l.length:=by
 refine xB (P:=λl=>(∀p∈l,Fits p.2/\p.1.size<=4000000)->Ev (dY l) l.length) (λ_=>Bn) (λl p ih h=>?_) l
 rw[lQ,List.length_append]
 exact(ih λq hq=>h q (List.mem_append.2 (.inl hq))).with (h p (by simp)).2 (h p (by simp)).1
def xE(d:Int)(x:V):Prop:=∀v∈x.vs,cZ v<=d
theorem xE.with{d:Int}{x:V}(h:xE d x)(ho:O x){key:ByteArray}{y:V}(hy:cZ y<=d):xE d (aQ x key y):=λv hv=>((Jq ho key y).2 v hv).elim (h v) (λe=>e▸hy)
theorem xE.deep{d:Int}{x:V}(hd:0<=d)(h:xE d x):cZ x<=d+1:=by obtain⟨k,n,t,ks,vs⟩:=x;exact tN hd h
theorem Q8{d:Int}(l:List (ByteArray×V)):(∀p∈l,cZ p.2<=d)->xE d (dY l):=by
 refine xB (P:=λl=>(∀p∈l,cZ p.2<=d)->xE d (dY l)) (λ_ v hv=>absurd hv List.not_mem_nil) (λl p ih h=>?_) l
 rw[lQ]
 exact(ih λq hq=>h q (List.mem_append.2 (.inl hq))).with (vC l) (h p (by simp))
theorem gN(k n:Int)(t:ByteArray):cZ (.mk k n t [] [])<=1:=tN (d:=0) (by decide) (λv h=>by cases h)
theorem Js(t:ByteArray):cZ (mV t)<=2:=tN (d:=1) (ks:=[gM]) (vs:=[dz t]) (by decide) (λv h=>by rw[List.mem_singleton.1 h];exact gN _ _ _)
theorem Hl(l:List ByteArray):cZ (fH l)<=2:=tN (d:=1) (ks:=[]) (vs:=l.map dz) (by decide) (λv h=>by obtain⟨s,_,rfl⟩:=List.mem_map.1 h;exact gN _ _ _)
theorem Bw(s:ByteArray):lG (dz s):=vB (by decide) (λx h=>by cases h)
theorem Jt(l:List ByteArray):lG (fH l):=vB (by decide) (λx h=>by obtain⟨s,_,rfl⟩:=List.mem_map.1 h;exact Bw s)
theorem Ow(l:List ByteArray)(ah:Nat)(h:∀s∈l,s.size<=ah):eP (l.map dz)<=(31+6*ah)*l.length:=by
 induction l with
 |nil=>exact Nat.zero_le _
 |cons s r ih=>
  have h1:=ih λx hx=>h x (List.mem_cons_of_mem _ hx)
  have h2:=h s (List.mem_cons_self ..)
  have e:tV (dz s)=30+6*s.size+0+0:=j3 ..
  rw[List.map_cons,eP,e,List.length_cons,Nat.mul_add]
  omega
theorem Hm{l:List ByteArray}(h:l.length<=1000000):Fits (fH l):=.mk _ _ _ _ _ (Nat.zero_le _) (by rw[List.length_map];exact h) (λy hy=>by obtain⟨s,_,rfl⟩:=List.mem_map.1 hy;exact kV s)
structure Sm(e:EV):Prop where
 prev:e.prev.length<=24/\∀s∈e.prev,s.size<=44
 bL:e.bL.length<=24/\∀s∈e.bL,s.size<=44
 txt:e.ty.size<=100/\e.key.size<=100/\e.sender.size<=100/\e.room.size<=100
 num:(-9223372036854775808<=e.depth/\e.depth<=9223372036854775807)/\ -9223372036854775808<=e.time/\e.time<=9223372036854775807
 wt:Wt 25000 e.body
 deep:cZ e.body<=31
 fits:Fits e.body
 o:O e.body
 few:e.body.ks.length<=1000
theorem Su{n:Int}(h: -9223372036854775808<=n/\n<=9223372036854775807):lG (fu n):=vB h (λx h=>by cases h)
theorem Sm.pairs{e:EV}(h:Sm e):(∀p∈dh e,lG p.2/\cZ p.2<=31/\Fits p.2/\p.1.size<=4000000)/\(dh e).length<=9/\30+Hg (dh e)<=45000:=by
 have hp:=Ow e.prev 44 h.prev.2
 have ha:=Ow e.bL 44 h.bL.2
 have hpl:=h.prev.1
 have hal:=h.bL.1
 obtain⟨t1,t2,t3,t4⟩:=h.txt
 refine⟨λp hm=>?_,?_,?_⟩
 ·have hc:p∈[(fF,fH e.bL),(aO,e.body),(dU,fu e.depth),(iK,fu e.time),(fK,fH e.prev),(fQ,dz e.room),(bQ,dz e.sender),(dN,dz e.ty),(dK,dz e.key)]:=by
   rcases List.mem_append.1 hm with h1|h1
   ·exact List.mem_append_left [(dK,dz e.key)] h1
   ·split at h1
    ·rw[List.mem_singleton] at h1;rw[h1];simp
    ·cases h1
  have up:∀{x:V},cZ x<=2->cZ x<=31:=λh=>by omega
  have up1:∀{x:V},cZ x<=1->cZ x<=31:=λh=>by omega
  have hz:∀s∈[fF,aO,dU,iK,fK,fQ,bQ,dN,dK],s.size<=4000000:=by decide
  simp only[List.mem_cons,List.not_mem_nil,or_false] at hc
  rcases hc with rfl|rfl|rfl|rfl|rfl|rfl|rfl|rfl|rfl
  ·exact⟨Jt _,up (Hl _),Hm (by omega),hz _ (by simp)⟩
  ·exact⟨h.wt.num,h.deep,h.fits,hz _ (by simp)⟩
  ·exact⟨Su h.num.1,up1 (gN _ _ _),kK _ _ _,hz _ (by simp)⟩
  ·exact⟨Su h.num.2,up1 (gN _ _ _),kK _ _ _,hz _ (by simp)⟩
  ·exact⟨Jt _,up (Hl _),Hm (by omega),hz _ (by simp)⟩
  ·exact⟨Bw _,up1 (gN _ _ _),kV _,hz _ (by simp)⟩
  ·exact⟨Bw _,up1 (gN _ _ _),kV _,hz _ (by simp)⟩
  ·exact⟨Bw _,up1 (gN _ _ _),kV _,hz _ (by simp)⟩
  ·exact⟨Bw _,up1 (gN _ _ _),kV _,hz _ (by simp)⟩
 ·unfold dh;split<;>simp
 ·have e1:∀s:ByteArray,tV (dz s)=30+6*s.size+0+0:=λs=>j3 ..
  have e2:∀n:Int,tV (fu n)=30+6*0+0+0:=λn=>j3 ..
  have e3:∀l:List ByteArray,tV (fH l)=30+6*0+0+eP (l.map dz):=λl=>j3 ..
  have hb:=h.wt.wt
  have z1:fF.size=11:=rfl
  have z2:aO.size=7:=rfl
  have z3:dU.size=5:=rfl
  have z4:iK.size=16:=rfl
  have z5:fK.size=11:=rfl
  have z6:fQ.size=7:=rfl
  have z7:bQ.size=6:=rfl
  have z8:dN.size=4:=rfl
  have z9:dK.size=9:=rfl
  unfold dh Hg
  split
  ·simp only[List.cons_append,List.nil_append,List.map_cons,List.map_nil,List.sum_cons,List.sum_nil,e1,e2,e3,z1,z2,z3,z4,z5,z6,z7,z8,z9]
   omega
  ·simp only[List.cons_append,List.nil_append,List.map_cons,List.map_nil,List.sum_cons,List.sum_nil,List.append_nil,e1,e2,e3,z1,z2,z3,z4,z5,z6,z7,z8,z9]
   omega
structure RD(v:V):Prop where
 o:O v
 ev:Ev v 20
 wt:Wt 60000 v
 deep:xE 31 v
theorem RD.fits{v:V}(h:RD v):Fits v:=h.ev.fits (by decide)
theorem Sm.rd{e:EV}(h:Sm e):RD (iw e):=by
 obtain⟨h1,h2,h3⟩:=h.pairs
 have he:Ev (iw e) (dh e).length:=Bv _ λp hp=>(h1 p hp).2.2
 exact⟨lH e,⟨he.k,he.len,he.GU,by have:=he.le;omega,he.keys,he.vals⟩,(Ov _ λp hp=>(h1 p hp).1).up (by omega),Q8 _ λp hp=>(h1 p hp).2.1⟩
theorem Sm.fields{e:EV}(h:Sm e):Ev (iw e) 9/\Wt 45000 (iw e):=by
 obtain⟨h1,h2,h3⟩:=h.pairs
 have he:Ev (iw e) (dh e).length:=Bv _ λp hp=>(h1 p hp).2.2
 exact⟨⟨he.k,he.len,he.GU,by have:=he.le;omega,he.keys,he.vals⟩,(Ov _ λp hp=>(h1 p hp).1).up h3⟩
theorem Sm.made{e:EV}(h:Sm e):Ev (aL e) 10/\Wt 45600 (aL e)/\xE 31 (aL e):=by
 obtain⟨h1,h2⟩:=h.fields
 exact⟨h1.with (by decide) (zX _),h2.qR,h.rd.deep.with (lH e) (by have:=Js (ed (iw e));omega)⟩
theorem Sm.make{e:EV}(h:Sm e):RD (aL e):=by
 obtain⟨h1,h2,h3⟩:=h.made
 exact⟨lS e,⟨h1.k,h1.len,h1.GU,by have:=h1.le;omega,h1.keys,h1.vals⟩,h2.up (by decide),h3⟩
theorem RD.print{v:V}(h:RD v):(aR v).size<=65536:=by
 have:=xw h.wt.num
 have:=h.wt.wt
 omega
theorem RD.dep{v:V}(h:RD v):cZ v<=32:=by have:=h.deep.deep (by decide);omega
theorem RD.pr{v:V}(h:RD v):Pr v:=Sn h.fits (h.wt.up (by decide))
theorem RD.CS{v:V}(h:RD v):Pr (fJ v):=Sk h.fits (h.wt.up (by decide))
theorem RD.fitsR{v:V}(h:RD v):Fits (jT v):=Ol h.fits (by have:=h.ev.le;omega)
theorem RD.prR{v:V}(h:RD v):Pr (jT v):=Sn h.fitsR ((h.wt.red (by decide)).up (by decide))
section
variable (qU lT:ByteArray->Bool) (kL:List ByteArray->Bool)
theorem yB{v:V}{e:EV}(h:vX v e)(hr:RD v)(h5:e.body.k=5)(hf:Bu qU lT kL e=true)(hh:jN v=true):xC qU lT kL v=({nS e with id:=oI v},0):=by
 have h1:=h.ok h5 qU lT kL
 have h2:=hr.dep
 have h3:=hr.print
 unfold xC
 rw[h1,hf,if_neg (by decide),if_neg (by omega),if_neg (by omega),hh,if_neg (by decide),h.ev]
theorem Oy{v:V}{e:EV}(h:vX v e)(h5:e.body.k=5)(hf:Bu qU lT kL e=false):xC qU lT kL v=(zeroE,15):=by
 have h1:=h.ok h5 qU lT kL
 unfold xC
 rw[h1,hf,if_pos U]
end
def kW(c:Int):Int:=match (List.range 64).find? (λi:Nat=>eO mP (i:Int)==c) with|some i=>(i:Int)|none=> -1
theorem aau(c:Int): -1<=kW c/\kW c<64:=by
 unfold kW
 split
 ·rename_i i h
  have:=(List.find?_range_eq_some.1 h).2.1
  rw[List.mem_range] at this
  omega
 ·omega
theorem aav:(List.range 64).all (λd:Nat=>kW (eO mP (d:Int))==(d:Int))=true:=by kernel_rfl
theorem Ho{d:Int}(h0:0<=d)(h1:d<64):kW (eO mP d)=d:=by
 have:=List.all_eq_true.1 aav d.toNat (List.mem_range.2 (by omega))
 rw[Int.toNat_of_nonneg h0] at this
 simpa using this
def dgt(s:ByteArray)(j:Nat):Int:=if j<s.size then kW (eO s (j:Int)) else 0
def aaw(s:ByteArray)(k:Nat):Nat->Int
 |0=>0
 |j+1=>64*aaw s k j+dgt s (4*k+j)
def manyN(s:ByteArray)(k:Nat):Nat:=min (s.size-4*k) 4
def aax(s:ByteArray)(k j:Nat):Int:=IntKind.u8.wrap (aaw s k 4/2^(16-8*j))
def gB(s:ByteArray)(k m:Nat):List Int:=(List.range m).map (aax s k)
def Sv(s:ByteArray):Nat->List Int
 |0=>[]
 |k+1=>Sv s k++gB s k (manyN s k-1)
def Ju(s:ByteArray):List Int:=Sv s ((s.size+3)/4)
def MB(s:ByteArray):Bool:=(List.range s.size).all λj=>decide (0<=kW (eO s (j:Int)))
def WK(s:ByteArray):Option (List Int):=if MB s=true then(if (dO (Ju s)).toList==s.toList then some (Ju s) else none) else none
theorem gB_len(s:ByteArray)(k m:Nat):(gB s k m).length=m:=by unfold gB;simp
theorem Q9{s:ByteArray}(h:∀j,j<s.size->0<=kW (eO s (j:Int))):MB s=true:=List.all_eq_true.2 λj hj=>decide_eq_true (h j (List.mem_range.1 hj))
theorem WL{s:ByteArray}{j:Nat}(hj:j<s.size)(h:kW (eO s (j:Int))<0):MB s=false:=by
 cases e:MB s with
 |false=>rfl
 |true=>
  have:=of_decide_eq_true (List.all_eq_true.1 e j (List.mem_range.2 hj))
  omega
theorem aay{s:ByteArray}(h:MB s=false):WK s=none:=by unfold WK;rw[if_neg (by rw[h];decide)]
theorem aaz{s:ByteArray}(h:MB s=true):WK s=if (dO (Ju s)).toList==s.toList then some (Ju s) else none:=by unfold WK;rw[if_pos h]
theorem tZ{c:Int}(h:0<=c/\c<256):eO (aN c) ((0:Nat):Int)=c:=by
 rw[iL _ _ (show 0<(aN c).size by rw[aU];decide)]
 show((UInt8.ofNat c.toNat).toNat:Int)=c
 rw[UInt8.toNat_ofNat']
 omega
theorem Jv(a b:ByteArray)(j:Nat)(h:j<a.size):eO (a++b) (j:Int)=eO a (j:Int):=by
 rw[iL _ _ (by rw[bf];omega),iL _ _ h]
 simp only[xq]
 rw[List.getElem_append_left]
theorem Jw(a b:ByteArray)(j:Nat)(h:j<b.size):eO (a++b) ((a.size+j:Nat):Int)=eO b (j:Int):=by
 rw[iL _ _ (by rw[bf];omega),iL _ _ h]
 simp only[xq]
 have hl:a.data.toList.length=a.size:=rfl
 rw[List.getElem_append_right (by omega)]
 congr 2
 simp only[hl]
 congr 1
 omega
theorem sgn_bd(n:Int)(j:Nat):0<=UH n j/\UH n j<256:=ql _ _
theorem Oz(n:Int):∀m j,j<m->eO (partT n m) (j:Int)=UH n j
 |m+1,j,h=>by
  rw[partT]
  by_cases hj:j<m
  ·rw[Jv _ _ _ (by rw[nO];exact hj)];exact Oz n m j hj
  ·obtain rfl:j=m:=by omega
   have:=Jw (partT n j) (aN (UH n j)) 0 (by rw[aU];decide)
   rw[nO,Nat.add_zero] at this
   rw[this]
   exact tZ (sgn_bd n j)
def T3(all:List Int)(k:Nat):ByteArray:=rX all (aK 3 k)
theorem Bz(all:List Int)(k:Nat):T3 all (k+1)=T3 all k++xc (iE all (k*3)):=by unfold T3;rw[fE,zQ]
theorem Et(all:List Int):∀k,3*k<=all.length->(T3 all k).size=4*k
 |0,_=>rfl
 |k+1,h=>by rw[Bz,bf,Et all k (by omega),uW,qJ];omega
theorem WM(all:List Int)(k i:Nat)(h:i<(T3 all k).size):∀d,i<(T3 all (k+d)).size/\eO (T3 all (k+d)) (i:Int)=eO (T3 all k) (i:Int)
 |0=>⟨h,rfl⟩
 |d+1=>by
  obtain⟨h1,h2⟩:=WM all k i h d
  rw[<-Nat.add_assoc,Bz]
  exact⟨by rw[bf];omega,by rw[Jv _ _ _ h1,h2]⟩
theorem OA(all:List Int):dO all=T3 all ((all.length+2)/3):=rfl
theorem lU(all:List Int):(dO all).size=4*(all.length/3)+(if all.length % 3=0 then 0 else all.length % 3+1):=by
 rw[OA]
 split
 ·rw[show(all.length+2)/3=all.length/3 by omega,Et _ _ (by omega)];rfl
 ·rw[show(all.length+2)/3=all.length/3+1 by omega,Bz,bf,Et _ _ (by omega),uW,qJ];omega
theorem uf(all:List Int)(k:Nat)(h:3*k<all.length):(iE all (k*3)).length=min 3 (all.length-3*k)/\manyN (dO all) k=(iE all (k*3)).length+1/\∀j,j<4->(4*k+j<(dO all).size↔j<(iE all (k*3)).length+1):=by
 have h1:=lU all
 have h2:=qJ all (k*3)
 unfold manyN
 refine⟨by omega,?_,λj hj=>?_⟩
 ·split at h1<;>omega
 ·split at h1<;>omega
theorem Eu(all:List Int)(k j:Nat)(h:3*k<all.length)(hj:j<(iE all (k*3)).length+1):eO (dO all) ((4*k+j:Nat):Int)=UH (jk (iE all (k*3)) 3) j:=by
 have hs:=Et all k (by omega)
 have hf:=uW (iE all (k*3))
 have h1:4*k+j<(T3 all (k+1)).size:=by rw[Bz,bf,hs,hf];omega
 obtain⟨_,h2⟩:=WM all (k+1) (4*k+j) h1 ((all.length+2)/3-(k+1))
 rw[show k+1+((all.length+2)/3-(k+1))=(all.length+2)/3 by omega,<-OA] at h2
 rw[h2,Bz]
 have h3:=Jw (T3 all k) (xc (iE all (k*3))) j (by omega)
 rw[hs] at h3
 rw[h3]
 exact Oz _ _ _ hj
theorem BA(all:List Int)(k j:Nat)(h:3*k<all.length)(hj4:j<4):dgt (dO all) (4*k+j)=if j<(iE all (k*3)).length+1 then NJ (jk (iE all (k*3)) 3) j else 0:=by
 unfold dgt
 have hm:=(uf all k h).2.2 j hj4
 by_cases hj:j<(iE all (k*3)).length+1
 ·rw[if_pos (hm.2 hj),if_pos hj,Eu all k j h hj]
  have:=zR (jk (iE all (k*3)) 3) j
  exact Ho this.1 this.2
 ·rw[if_neg (λe=>hj (hm.1 e)),if_neg hj]
theorem CX(c:List Int):jk c 3=(c.getD 0 0*256+c.getD 1 0)*256+c.getD 2 0:=by
 show((0*256+c.getD 0 0)*256+c.getD 1 0)*256+c.getD 2 0=_
 rw[Int.zero_mul,Int.zero_add]
theorem WN(all:List Int)(hb:fo all)(k:Nat)(h:3*k<all.length):aaw (dO all) k 4=jk (iE all (k*3)) 3:=by
 have d0:=BA all k 0 h (by decide)
 have d1:=BA all k 1 h (by decide)
 have d2:=BA all k 2 h (by decide)
 have d3:=BA all k 3 h (by decide)
 have hl:=(uf all k h).1
 have hc:=Em hb (k*3)
 have b0:=hc.at 0
 have b1:=hc.at 1
 have b2:=hc.at 2
 have e:aaw (dO all) k 4=64*(64*(64*(64*0+dgt (dO all) (4*k+0))+dgt (dO all) (4*k+1))+dgt (dO all) (4*k+2))+dgt (dO all) (4*k+3):=rfl
 have hf:=CX (iE all (k*3))
 have z1:=xe (iE all (k*3)) 1
 have z2:=xe (iE all (k*3)) 2
 rw[e,d0,d1,d2,d3]
 generalize iE all (k*3)=c at*
 have q:∀j,NJ (jk c 3) j=jk c 3/2^(18-6*j)% 64:=λj=>rfl
 rw[q 0,q 1,q 2,q 3,if_pos (by omega),if_pos (by omega)]
 generalize jk c 3=n at*
 show 64*(64*(64*(64*0+n/262144 % 64)+n/4096 % 64)+(if _ then n/64 % 64 else 0))+(if _ then n/1 % 64 else 0)=n
 by_cases h3:c.length=3
 ·rw[if_pos (by omega),if_pos (by omega)];omega
 ·have z2:=z2 (by omega)
  by_cases h2:c.length=2
  ·rw[if_pos (by omega),if_neg (by omega)];omega
  ·have z1:=z1 (by omega)
   rw[if_neg (by omega),if_neg (by omega)];omega
theorem Uj(all:List Int)(hb:fo all)(k j:Nat)(h:3*k<all.length)(hj:j<3):aax (dO all) k j=(iE all (k*3)).getD j 0:=by
 have hc:=Em hb (k*3)
 have b0:=hc.at 0
 have b1:=hc.at 1
 have b2:=hc.at 2
 have hf:=CX (iE all (k*3))
 unfold aax
 rw[WN all hb k h,IntKind.wrap_u8]
 generalize jk (iE all (k*3)) 3=n at*
 generalize iE all (k*3)=c at*
 match j,hj with
 |0,_=>show n/65536 % 256=_;omega
 |1,_=>show n/256 % 256=_;omega
 |2,_=>show n/1 % 256=_;omega
theorem aaA(all:List Int)(hb:fo all)(k:Nat)(h:3*k<all.length):gB (dO all) k (manyN (dO all) k-1)=iE all (k*3):=by
 obtain⟨hl,hm,_⟩:=uf all k h
 apply List.ext_getElem
 ·rw[gB_len,hm];omega
 ·intro j h1 h2
  have e:(gB (dO all) k (manyN (dO all) k-1))[j]=aax (dO all) k j:=by simp[gB]
  rw[e,Uj all hb k j h (by omega),getD_at h2]
theorem Hq(all:List Int)(hb:fo all):∀k,k<=(all.length+2)/3->Sv (dO all) k=all.take (3*k)
 |0,_=>by rw[Nat.mul_zero,List.take_zero];rfl
 |k+1,hk=>by
  show Sv (dO all) k++gB (dO all) k (manyN (dO all) k-1)=_
  rw[aaA all hb k (by omega),Hq all hb k (by omega)]
  unfold iE
  rw[show 3*(k+1)=3*k+3 by omega,List.take_add,Nat.mul_comm k 3]
theorem Hr(all:List Int)(hb:fo all):WK (dO all)=some all:=by
 have hs:=lU all
 have hq:((dO all).size+3)/4=(all.length+2)/3:=by rw[hs];split<;>omega
 have hback:Ju (dO all)=all:=by
  unfold Ju
  rw[hq,Hq all hb _ (Nat.le_refl _),List.take_of_length_le (by omega)]
 have hok:MB (dO all)=true:=Q9 λj hj=>by
  have hk:3*(j/4)<all.length:=by rw[hs] at hj;split at hj<;>omega
  have hjj:j=4*(j/4)+j % 4:=by omega
  have hm:=((uf all (j/4) hk).2.2 (j % 4) (by omega)).1 (by rw[<-hjj];exact hj)
  have:=Eu all (j/4) (j % 4) hk hm
  rw[<-hjj] at this
  rw[this]
  have hd:=zR (jk (iE all (j/4*3)) 3) (j % 4)
  rw[show kW (UH (jk (iE all (j/4*3)) 3) (j % 4))=NJ (jk (iE all (j/4*3)) 3) (j % 4) from Ho hd.1 hd.2]
  exact hd.1
 rw[aaz hok,hback,beq_self_eq_true,if_pos U]
theorem WO(a b:ByteArray):(a++b).extract a.size (a++b).size=b:=by
 apply ByteArray.ext
 apply Array.toList_inj.1
 simp[ByteArray.data_extract,ByteArray.data_append]
 have h1:List.drop a.size a.data.toList=[]:=List.drop_eq_nil_of_le (Nat.le_of_eq U)
 have h2:List.take b.size b.data.toList=b.data.toList:=List.take_of_length_le (Nat.le_of_eq U)
 rw[h1,h2,List.take_nil,List.nil_append]
theorem O.at{x:V}(h:O x)(i:Nat)(h1:i<x.ks.length)(h2:i<x.vs.length):aH x x.ks[i]=(x.vs[i],true):=by
 have:(x.ks[i],x.vs[i])∈x.ks.zip x.vs:=by
  have:(x.ks.zip x.vs)[i]'(by rw[List.length_zip];omega)=(x.ks[i],x.vs[i]):=List.getElem_zip
  rw[<-this];exact List.getElem_mem _
 exact h.mem.2 this
end Go.Proofs.YtonpfomjoiaacaaGreatDoor
end
