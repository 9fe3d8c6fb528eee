/- A part of the proof. -/
import Derived.Test.YtonpfomjoiaacaaGreatDoorMz40
set_option maxRecDepth 100000
set_option maxHeartbeats 4000000
set_option linter.unusedSectionVars false
set_option linter.unusedVariables false
set_option linter.unusedSimpArgs false
section
namespace Go.Proofs.YtonpfomjoiaacaaGreatDoor
open Go Go.fT Go.RowKit
theorem YI:∀{a b:List ByteArray},a.Sublist b->tH a<=tH b:=by
 intro a b h
 induction h with
 |slnil=>exact Nat.le_refl _
 |cons x h ih=>rw[tH];omega
 |cons_cons x h ih=>rw[tH,tH];omega
theorem UR:∀{a b:List V},a.Sublist b->dW a<=dW b:=by
 intro a b h
 induction h with
 |slnil=>exact Nat.le_refl _
 |cons x h ih=>rw[dW];omega
 |cons_cons x h ih=>rw[dW,dW];omega
theorem UT:∀(a:List ByteArray) (b:List V),tH ((a.zip b).map (·.1))<=tH a/\dW ((a.zip b).map (·.2))<=dW b
 |[],b=>⟨Nat.le_refl _,Nat.zero_le _⟩
 |x::r,[]=>⟨Nat.zero_le _,Nat.le_refl _⟩
 |x::r,y::s=>by
  have h:=UT r s
  show tH (x::(r.zip s).map (·.1))<=_/\dW (y::(r.zip s).map (·.2))<=_
  rw[tH,tH,dW,dW]
  have h1:=h.1
  have h2:=h.2
  exact⟨by omega,by omega⟩
theorem Wt.pick{N:Nat}{x:V}(h:Wt N x)(g:ByteArray->Bool):Wt (N+30) (iQ x g):=by
 have s0:(nA x.ks x.vs g (min x.ks.length x.vs.length)).Sublist (x.ks.zip x.vs):=(List.filter_sublist).trans (List.take_sublist _ _)
 have h1:=YI (s0.map (·.1))
 have h2:=UR (s0.map (·.2))
 have h4:=UT x.ks x.vs
 have h3:=h.wt
 rw[E9 x] at h3
 unfold iQ
 refine⟨tN (by decide) (λv hv=>?_),?_⟩
 ·obtain⟨p,hp,rfl⟩:=List.mem_map.1 hv
  exact h.num.kid (List.of_mem_zip (s0.subset hp)).2
 ·rw[jB]
  show 30+6*0+_+_<=_
  omega
theorem Wt.red{N:Nat}{x:V}(h:Wt N x)(hN:30<=N):Wt (2*N+200) (jX x):=by
 have h1:Wt (N+30) (sZ x):=h.pick _
 have h2:Wt (N+30) (tq x):=h1.get (by omega) _
 unfold jX
 split
 ·split
  ·exact(h1.with (h2.pick _) (by decide:aQ.size<=7)).up (by omega)
  ·exact h1.up (by omega)
 ·exact .leaf (by decide) (by show 30+6*0<=_;omega)
theorem Pg{x:V}(hx:Fits x)(key:ByteArray){y:V}(hy:Fits y)(h1:x.ks.length<=500000)(h2:x.vs.length<=500000):Fits (bH x key y):=by
 have hw:=sW x key y
 have ho:(eP x).ks.length<=500000/\(eP x).vs.length<=500000:=by
  unfold eP
  split
  ·exact⟨h1,h2⟩
  ·exact⟨Nat.zero_le _,Nat.zero_le _⟩
 refine Fits.of (by omega) (by omega) λv hv=>?_
 have hfo:Fits (eP x):=hx.obj
 rcases sV hv with h|h
 ·generalize eP x=o at*
  cases hfo with|mk _ _ _ _ _ a b c=>exact c v h
 ·rw[h];exact hy
theorem MB{x:V}(hx:Fits x)(hl:x.ks.length<=500000):Fits (jX x):=by
 have ho:Fits (sZ x):=wu hx _
 have hc:Fits (tq x):=lK ho _
 have hpk:Fits (iQ (tq x) (fO (aI x dK).1.t)):=wu hc _
 have hsl:=JZ x.ks x.vs (hasB dC) (min x.ks.length x.vs.length)
 unfold jX
 split
 ·split
  ·refine Pg ho aQ hpk ?_ ?_
   ·show(List.map _ (nA x.ks x.vs (hasB dC) (min x.ks.length x.vs.length))).length<=_
    rw[List.length_map];omega
   ·show(List.map _ (nA x.ks x.vs (hasB dC) (min x.ks.length x.vs.length))).length<=_
    rw[List.length_map];omega
  ·exact ho
 ·exact mD _ _ _
theorem Ph(x:V):(gX x).size<=50:=by
 have h:=(mo (pV (bytesOf (aO (eZ x)))) (aK 3 11)).2
 have e:gX x=qp (pV (bytesOf (aO (eZ x)))) (aK 3 11):=by
  unfold gX dB
  rw[pq]
 rw[e]
 have:(aK 3 11).length=11:=by decide
 omega
theorem Wt.sealO(t:ByteArray)(ht:t.size<=50):Wt 500 (nO t):=by
 have h0:Wt 30 zeroV:=.leaf (by decide) (by decide)
 exact(h0.with (Wt.str (N:=330) (t:=t) (by omega)) (by decide:fQ.size<=6)).up (by decide)
theorem Wt.J8{N:Nat}{x:V}(h:Wt N x):Wt (N+600) (kD x):=(h.with (Wt.sealO _ (Ph x)) (by decide:bq.size<=6)).up (by omega)
theorem Qq{x:V}(hf:Fits x)(hw:Wt 1000000000 x):Pr (eZ x):=⟨ry (ry hf _) _,((hw.without _).without _).num,((hw.without _).without _).wt⟩
theorem Qr{x:V}(hf:Fits x)(hw:Wt 1000000000 x):Pr x:=⟨hf,hw.num,hw.wt⟩
def kF:ByteArray:=⟨#[36]⟩
def zW(x:V):ByteArray:=kF++dB (pV (bytesOf (aO (jX x))))
theorem Pj(s:ByteArray)(hs:s.size<=1000000000)(H:Hp)(hN:AP H):au Tryz.prog 91 [.v (.string s)] H (bz H (.v (.string (kF++dB (pV (bytesOf s)))))):=by
 have hbl:=qx s
 have hbo:=tK s
 have hsl:=pq (bytesOf s)
 have hso:=Cu (bytesOf s)
 have htz:=(mo (pV (bytesOf s)) (aK 3 11)).2
 have htl:(aK 3 11).length=11:=by decide
 have hte:dB (pV (bytesOf s))=qp (pV (bytesOf s)) (aK 3 11):=by unfold dB;rw[pq]
 rw[<-hte] at htz
 have hds:(⟨#[36]⟩:ByteArray).size=1:=rfl
 unfold kF
 refine aF (n:=8) (H0:=H) (I:=[]) Tryz.func91 (by kernel_rfl) U (by rw[Tryz.ntmps91];rfl) .nil<|?_
 refine Q.rg<|Q.as U<|Q.nt<|Q.rg<|Q.mv U<|S.qu (Z.eq (u':=.sl (bf (bytesOf s))) (Z.s2b Tryz.underlying9 Tryz.underlying22 (by rfl) U (by omega)) (by rw[tL]))<|?_
 refine S.qu (Z.nK U U (λhd=>LU (bytesOf s) (by omega) hbo _ (hN.ext U)))<|S.qu (Z.nK U U (λhd=>EJ (pV (bytesOf s)) (by omega) (by omega) hso _ (hN.ext U)))<|S.qu (Z.cat U U (by omega))<|Q.as U<|Q.nt<|UW.ret<|S.bK (λ_=>ak U U)<|?_
 rfl
theorem MC(s:ByteArray)(hs:s.size<=1000000000)(H:Hp)(hG:gU H):au Tryz.prog 91 [.v (.string s)] H (bz H (.v (.string (kF++dB (pV (bytesOf s)))))):=
 au.ZA hG.raw (Pj s hs _ (AP.raw hG.raw)) U
theorem Qs(x:V)(hx:Fits x)(hp:Pr (jX x))(H:Hp)(hG:gU H):au Tryz.prog 42 [.agg (aD x)] H (bz H (.v (.string (zW x)))):=by
 have hsz:=Cz hp
 have hr:∀H,gU H->au Tryz.prog 92 [.agg (aD x)] H (bz H (.agg (aD (jX x)))):=λH h=>Md x hx H h
 have hpr:∀H,gU H->au Tryz.prog 66 [.agg (aD (jX x))] H (bz H (.v (.string (aO (jX x))))):=λH h=>tJ (jX x) hp.fits hp H h
 have hid:∀H,gU H->au Tryz.prog 91 [.v (.string (aO (jX x)))] H (bz H (.v (.string (zW x)))):=λH h=>MC _ hsz H h
 generalize zW x=i at*
 generalize jX x=r at*
 generalize aO r=pt at*
 obtain⟨k,n,t,ks,vs⟩:=x
 refine aF (n:=7) (H0:=H) (I:=[]) Tryz.func42 (by kernel_rfl) U (by rw[Tryz.ntmps42];rfl) .nil<|?_
 refine Q.rg<|S.dd<|D.box U U U λp1=>Q.as U<|Q.nt<|Q.rg<|S.qu (Z.dA 0 av U U U)<|S.qu (Z.fe U U (λ_ hS=>hr _ (hG.mono hS)))<|S.qu (Z.fe U U (λ_ hS=>hpr _ (hG.mono hS)))<|S.qu (Z.fe U U (λ_ hS=>hid _ (hG.mono hS)))<|Q.as U<|Q.nt<|UW.ret<|S.bK (λ_=>ak U U)<|?_
 rfl
structure EV where
 id:ByteArray
 ty:ByteArray
 key:ByteArray
 is:Bool
 sender:ByteArray
 room:ByteArray
 prev:List ByteArray
 dH:List ByteArray
 depth:Int
 time:Int
 body:V
def mZ(e:EV):List AV:=[.v (.string e.id),.v (.string e.ty),.v (.string e.key),.v (.bool e.is),.v (.string e.sender),.v (.string e.room),strs e.prev,strs e.dH,.v (.int .i64 e.depth),.v (.int .i64 e.time)]++aD e.body
def gK:ByteArray:=⟨#[97,117,116,104,95,101,118,101,110,116,115]⟩
def eu:ByteArray:=⟨#[100,101,112,116,104]⟩
def iR:ByteArray:=⟨#[111,114,105,103,105,110,95,115,101,114,118,101,114,95,116,115]⟩
def gV:ByteArray:=⟨#[112,114,101,118,95,101,118,101,110,116,115]⟩
def gY:ByteArray:=⟨#[114,111,111,109,95,105,100]⟩
def bZ:ByteArray:=⟨#[115,101,110,100,101,114]⟩
def dX:ByteArray:=⟨#[115,116,97,116,101,95,107,101,121]⟩
def Bh:V:=.mk 5 0 ⟨#[]⟩ [] []
def bT(e:EV):List (ByteArray×V):=[(gK,eX e.dH),(aQ,e.body),(eu,mU e.depth),(iR,mU e.time),(gV,eX e.prev),(gY,cK e.room),(bZ,cK e.sender),(dK,cK e.ty)]++(if e.is=true then[(dX,cK e.key)] else[])
def dL(l:List (ByteArray×V)):V:=l.foldl (λv p=>bH v p.1 p.2) Bh
def iI(e:EV):V:=dL (bT e)
def dx(e:EV):V:=kD (iI e)
theorem kK(l:List (ByteArray×V))(p:ByteArray×V):dL (l++[p])=bH (dL l) p.1 p.2:=by unfold dL;rw[List.foldl_append];rfl
theorem vC{α:Type}{P:List α->Prop}(h0:P [])(h1:∀l a,P l->P (l++[a]))(l:List α):P l:=by
 rw[<-l.reverse_reverse]
 generalize l.reverse=r
 induction r with
 |nil=>exact h0
 |cons a r ih=>rw[List.reverse_cons];exact h1 _ _ ih
theorem tV(l:List (ByteArray×V)):O (dL l):=by
 refine vC (P:=λl=>O (dL l)) O.empty (λl p h=>?_) l
 rw[kK];exact h.with _ _
theorem wD(l:List (ByteArray×V))(hn:(l.map (·.1)).Nodup)(key:ByteArray):(∀v,(key,v)∈l->aI (dL l) key=(v,true))/\(key∉l.map (·.1)->aI (dL l) key=(zeroV,false)):=by
 revert hn
 refine vC (P:=λl=>(l.map (·.1)).Nodup->(∀v,(key,v)∈l->aI (dL l) key=(v,true))/\(key∉l.map (·.1)->aI (dL l) key=(zeroV,false))) (λ_=>⟨λv h=>absurd h List.not_mem_nil,λ_=>rfl⟩) (λl p ih hn=>?_) l
 rw[List.map_append,List.nodup_append] at hn
 obtain⟨i1,i2⟩:=ih hn.1
 have hd:p.1∉l.map (·.1):=λh=>hn.2.2 p.1 h p.1 (by simp) U
 rw[kK]
 constructor
 ·intro v hv
  rcases List.mem_append.1 hv with h|h
  ·have hne:key≠p.1:=λe=>hd (e▸List.mem_map.2 ⟨_,h,rfl⟩)
   rw[(tV l).jy hne];exact i1 v h
  ·rw[List.mem_singleton] at h
   subst h
   exact(tV l).jO _ _
 ·intro hk
  rw[List.map_append] at hk
  have hne:key≠p.1:=λe=>hk (List.mem_append.2 (.inr (by simp[e])))
  rw[(tV l).jy hne]
  exact i2 λh=>hk (List.mem_append.2 (.inl h))
theorem Fe{l m:List (ByteArray×V)}(hl:(l.map (·.1)).Nodup)(hm:(m.map (·.1)).Nodup)(h:∀p,p∈l↔p∈m):dL l=dL m:=by
 refine(tV l).ext (tV m) λkey=>?_
 obtain⟨a1,a2⟩:=wD l hl key
 obtain⟨b1,b2⟩:=wD m hm key
 by_cases hk:key∈l.map (·.1)
 ·obtain⟨p,hp,rfl⟩:=List.mem_map.1 hk
  rw[a1 p.2 hp,b1 p.2 ((h p).1 hp)]
 ·rw[a2 hk,b2 λhq=>hk (by obtain⟨p,hp,e⟩:=List.mem_map.1 hq;exact List.mem_map.2 ⟨p,(h p).2 hp,e⟩)]
def zJ(is:Bool):List ByteArray:=[gK,aQ,eu,iR,gV,gY,bZ,dK]++(if is=true then[dX] else[])
theorem BO(e:EV):(bT e).map (·.1)=zJ e.is:=by
 unfold bT zJ
 rw[List.map_append]
 split<;>rfl
theorem wU(is:Bool):(zJ is).Nodup:=by cases is<;>decide
theorem nV(e:EV):((bT e).map (·.1)).Nodup:=by rw[BO];exact wU _
theorem pM(e:EV):O (iI e):=tV _
theorem UU(e:EV):O (dx e):=(pM e).J8
theorem Pk{e:EV}{key:ByteArray}{v:V}(h:(key,v)∈bT e):aI (iI e) key=(v,true):=(wD _ (nV e) key).1 v h
theorem lM{e:EV}{key:ByteArray}{v:V}(h:(key,v)∈bT e)(hk:key≠bq):aI (dx e) key=(v,true):=((pM e).jy hk _).trans (Pk h)
theorem ng{e:EV}{p:ByteArray×V}(h:p∈[(gK,eX e.dH),(aQ,e.body),(eu,mU e.depth),(iR,mU e.time),(gV,eX e.prev),(gY,cK e.room),(bZ,cK e.sender),(dK,cK e.ty)]):p∈bT e:=List.mem_append.2 (.inl h)
theorem Pm{e:EV}(h:e.is=true):(dX,cK e.key)∈bT e:=List.mem_append.2 (.inr (by rw[if_pos h];simp))
theorem RV{e:EV}{key:ByteArray}(h:key∉zJ e.is)(hk:key≠bq):aI (dx e) key=(zeroV,false):=((pM e).jy hk _).trans ((wD _ (nV e) key).2 (by rw[BO];exact h))
theorem ME(e:EV):aI (dx e) bq=(nO (gX (iI e)),true):=(pM e).jO _ _
def qG(v:V)(key:ByteArray)(k:Int):Bool:=(aI v key).2&&decide ((aI v key).1.k=k)
def fA(x:V):List ByteArray:=x.vs.map λy=>if y.k=3 then y.t else⟨#[]⟩
def Bi(s:ByteArray):Bool:=decide (s.size≠0)&&decide (s.size<=80)
def UX(v:V):EV where
 id:=⟨#[]⟩
 ty:=(aI v dK).1.t
 key:=if (aI v dX).2=true then(aI v dX).1.t else⟨#[]⟩
 is:=(aI v dX).2
 sender:=(aI v bZ).1.t
 room:=(aI v gY).1.t
 prev:=fA (aI v gV).1
 dH:=fA (aI v gK).1
 depth:=(aI v eu).1.n
 time:=(aI v iR).1.n
 body:=(aI v aQ).1
def zeroE:EV:=⟨⟨#[]⟩,⟨#[]⟩,⟨#[]⟩,false,⟨#[]⟩,⟨#[]⟩,[],[],0,0,zeroV⟩
section
variable (um nG:ByteArray->Bool) (lN:List ByteArray->Bool)
def SB(v:V):Bool:=
 (qG v dK 3&&Bi (aI v dK).1.t)&&(qG v bZ 3&&um (aI v bZ).1.t)&&(qG v gY 3&&nG (aI v gY).1.t)&&(qG v gV 4&&lN (fA (aI v gV).1))&&(qG v gK 4&&lN (fA (aI v gK).1))&&
 (qG v eu 2&&decide (0<=(aI v eu).1.n))&&(qG v iR 2&&decide (0<=(aI v iR).1.n))&&qG v aQ 5&&qG v bq 5&&(!(aI v dX).2||(decide ((aI v dX).1.k=3)&&decide ((aI v dX).1.t.size<=80)))
def Ff(v:V):EV×Int:=
 if SB um nG lN v=false then(zeroE,15) else if 32<dh v then(zeroE,12) else if 65536<(aO v).size then(zeroE,3) else if kE v=false then(zeroE,17) else({UX v with id:=zW v},0)
theorem ok_no{v:V}{key:ByteArray}{k:Int}(hk:(key,k)∈[(dK,3),(bZ,3),(gY,3),(gV,4),(gK,4),(eu,2),(iR,2),(aQ,5),(bq,(5:Int))])(h:qG v key k=false):SB um nG lN v=false:=by
 unfold SB
 simp only[List.mem_cons,Prod.mk.injEq,List.not_mem_nil,or_false] at hk
 rcases hk with ⟨rfl,rfl⟩|⟨rfl,rfl⟩|⟨rfl,rfl⟩|⟨rfl,rfl⟩|⟨rfl,rfl⟩|⟨rfl,rfl⟩|⟨rfl,rfl⟩|⟨rfl,rfl⟩|⟨rfl,rfl⟩<;>rw[h]<;>simp
end
theorem mE(l:List ByteArray):fA (eX l)=l:=by
 show(l.map cK).map (λy=>if y.k=3 then y.t else⟨#[]⟩)=l
 rw[List.map_map]
 have:((λy:V=>if y.k=3 then y.t else⟨#[]⟩)∘cK)=id:=by
  funext s
  show(if (3:Int)=3 then s else⟨#[]⟩)=s
  rw[if_pos U]
 rw[this,List.map_id]
structure F4(v:V)(e:EV):Prop where
 ty:aI v dK=(cK e.ty,true)
 sender:aI v bZ=(cK e.sender,true)
 room:aI v gY=(cK e.room,true)
 prev:aI v gV=(eX e.prev,true)
 dH:aI v gK=(eX e.dH,true)
 depth:aI v eu=(mU e.depth,true)
 time:aI v iR=(mU e.time,true)
 body:aI v aQ=(e.body,true)
 hash:∃t,aI v bq=(nO t,true)
 st:aI v dX=if e.is=true then(cK e.key,true) else(zeroV,false)
theorem Bj(e:EV):F4 (dx e) e where
 ty:=lM (ng (by simp)) (by decide)
 sender:=lM (ng (by simp)) (by decide)
 room:=lM (ng (by simp)) (by decide)
 prev:=lM (ng (by simp)) (by decide)
 dH:=lM (ng (by simp)) (by decide)
 depth:=lM (ng (by simp)) (by decide)
 time:=lM (ng (by simp)) (by decide)
 body:=lM (ng (by simp)) (by decide)
 hash:=⟨_,ME e⟩
 st:=by
  by_cases h:e.is=true
  ·rw[if_pos h];exact lM (Pm h) (by decide)
  ·rw[if_neg h]
   refine RV (λhm=>?_) (by decide)
   have he:e.is=false:=by simpa using h
   rw[he] at hm
   have hn:([gK,aQ,eu,iR,gV,gY,bZ,dK]++[dX]).Nodup:=wU true
   have hm2:dX∈[gK,aQ,eu,iR,gV,gY,bZ,dK]:=by simpa[zJ] using hm
   exact(List.nodup_append.1 hn).2.2 _ hm2 _ (List.mem_singleton.2 U) U
def MF(um nG:ByteArray->Bool)(lN:List ByteArray->Bool)(e:EV):Bool:=Bi e.ty&&um e.sender&&nG e.room&&lN e.prev&&lN e.dH&&decide (0<=e.depth)&&decide (0<=e.time)&&(!e.is||decide (e.key.size<=80))
theorem tX{v:V}{key:ByteArray}{x:V}{k:Int}(h:aI v key=(x,true))(hk:x.k=k):qG v key k=true:=by unfold qG;rw[h];show(true&&decide (x.k=k))=true;rw[decide_eq_true hk];rfl
theorem F4.ok{v:V}{e:EV}(h:F4 v e)(h5:e.body.k=5)(um nG:ByteArray->Bool)(lN:List ByteArray->Bool):SB um nG lN v=MF um nG lN e:=by
 obtain⟨t,ht⟩:=h.hash
 unfold SB MF
 rw[tX (k:=3) h.ty U,tX (k:=3) h.sender U,tX (k:=3) h.room U,tX (k:=4) h.prev U,tX (k:=4) h.dH U,tX (k:=2) h.depth U,tX (k:=2) h.time U,tX (k:=5) h.body h5,tX (k:=5) ht U,h.ty,h.sender,h.room,h.prev,h.dH,h.depth,h.time,h.st,mE,mE]
 simp only[Bool.true_and,Bool.and_true]
 congr 1
 by_cases hi:e.is=true
 ·rw[if_pos hi,hi];rfl
 ·have:e.is=false:=by simpa using hi
  rw[if_neg hi,this];rfl
def J9(e:EV):EV:={e with id:=⟨#[]⟩,key:=if e.is=true then e.key else⟨#[]⟩}
theorem F4.ev{v:V}{e:EV}(h:F4 v e):UX v=J9 e:=by
 unfold UX J9
 rw[h.ty,h.sender,h.room,h.prev,h.dH,h.depth,h.time,h.body,h.st,mE,mE]
 by_cases hi:e.is=true
 ·rw[if_pos hi,hi];rfl
 ·have:e.is=false:=by simpa using hi
  rw[if_neg hi,this];rfl
theorem MG{v:V}(h:O v):kE (kD v)=true:=by
 have e:aI (kD v) bq=(nO (gX v),true):=h.jO _ _
 rw[RU e,h.Mx];simp
theorem YJ{x:V}(h:dG x=true)(h5:x.k=5):O x/\(∀s∈x.ks,PX s<0)/\∀v∈x.vs,dG v=true:=by
 obtain⟨k,n,t,ks,vs⟩:=x
 have hk:k=5:=h5
 subst hk
 have hv:=EL h
 obtain⟨h1,h2,h3,h4,_⟩:=GQ.1 h
 obtain⟨h6,h7⟩:=RB h3
 have ht:t=⟨#[]⟩:=by
  by_cases he:t.toList=(⟨#[]⟩:ByteArray).toList
  ·exact fM he
  ·unfold qD at h2;rw[iy he] at h2;cases h2
 exact⟨⟨rfl,h1,ht,h4,h6⟩,h7,hv⟩
theorem O.right{x:V}(h:O x)(hk:∀s∈x.ks,PX s<0)(hv:∀v∈x.vs,dG v=true):dG x=true:=by
 rw[h.form]
 exact GQ.2 ⟨rfl,by kernel_rfl,RF h.GR hk,h.len,BA λi hi=>hv _ (List.getElem_mem hi)⟩
theorem Ha{x:V}(h:O x)(key:ByteArray)(y:V):(∀s∈(bH x key y).ks,s∈x.ks\/s=key)/\∀v∈(bH x key y).vs,v∈x.vs\/v=y:=by
 have e:=h.form
 obtain⟨ks',vs',e1,e2,e3,e4,e5⟩:=Bb (n:=0) (t:=⟨#[]⟩) h.len h.GR key y
 rw[<-e] at e1
 rw[e1]
 exact⟨e4,e5⟩
theorem Pn{x:V}(h:O x)(hr:dG x=true){key:ByteArray}(hk:PX key<0){y:V}(hy:dG y=true):dG (bH x key y)=true:=by
 obtain⟨_,h1,h2⟩:=YJ hr h.k
 obtain⟨h3,h4⟩:=Ha h key y
 exact(h.with key y).right (λs hs=>(h3 s hs).elim (h1 s) (λe=>e▸hk)) (λv hv=>(h4 v hv).elim (h2 v) (λe=>e▸hy))
theorem MH:dG (.mk 5 0 ⟨#[]⟩ [] [])=true:=by kernel_rfl
theorem Fg{p:ByteArray->Bool}{l:List ByteArray}(h:l.all p=true)(h0:p ⟨#[]⟩=true)(i:Nat):p (l.getD i ⟨#[]⟩)=true:=by
 by_cases hi:i<l.length
 ·exact List.all_eq_true.1 h _ (eY hi)
 ·simp only[List.getD,List.getElem?_eq_none (Nat.le_of_not_lt hi)];exact h0
def chkB(s:ByteArray):Bool:=decide (PX s<0)
def rgtB(s:ByteArray):Bool:=dG (cK s)
theorem MI(c:List Int)(hc:zh c)(k:Int)(j:Nat):dG (pK c k j)=true:=by
 have hb:=mX hc j
 unfold pK
 repeat' split
 ·exact Fg (p:=rgtB) (by kernel_rfl) (by kernel_rfl) _
 ·exact Fg (p:=rgtB) (by kernel_rfl) (by kernel_rfl) _
 ·exact L8 _ _ (G8 _).1
 ·have h1:=Int.tmod_nonneg 120 hb.1
  have h2:=Int.tmod_lt_of_pos (c.getD j 0) (by decide:(0:Int)<120)
  exact Gz (by decide) (by decide) ⟨λh=>absurd h (by decide),λ_=>by omega,λ_ h=>absurd U h⟩ (by kernel_rfl) (by kernel_rfl) (by decide) (by kernel_rfl)
theorem vD(c:List Int)(hc:zh c)(k:Int):∀j,O (vz c k j)/\dG (vz c k j)=true
 |0=>⟨O.empty,MH⟩
 |j+1=>by
  obtain⟨h1,h2⟩:=vD c hc k j
  exact⟨h1.with _ _,Pn h1 h2 (of_decide_eq_true (Fg (p:=chkB) (by kernel_rfl) (by kernel_rfl) _)) (MI c hc k j)⟩
theorem Hd{x:V}(h:O x)(kind:ByteArray):∀j,j<=x.ks.length->O (pI kind x j)/\∀key,(key∈x.ks.take j/\fO kind key=false->aI (pI kind x j) key=(zeroV,false))/\(¬(key∈x.ks.take j/\fO kind key=false)->aI (pI kind x j) key=aI x key)
 |0,_=>⟨h,λkey=>⟨λe=>absurd e.1 List.not_mem_nil,λ_=>rfl⟩⟩
 |j+1,hj=>by
  obtain⟨h1,h2⟩:=Hd h kind j (by omega)
  have ht:∀key,key∈x.ks.take (j+1)↔key∈x.ks.take j\/key=x.ks.getD j ⟨#[]⟩:=λkey=>by
   rw[List.take_add_one,List.getElem?_eq_getElem (show j<x.ks.length by omega),List.mem_append,getD_at (show j<x.ks.length by omega)]
   simp
  unfold pI
  by_cases hk:fO kind (x.ks.getD j ⟨#[]⟩)=true
  ·rw[if_pos hk]
   refine⟨h1,λkey=>⟨λe=>(h2 key).1 ⟨((ht key).1 e.1).elim id (λe1=>?_),e.2⟩,λe=>(h2 key).2 λe1=>e ⟨(ht key).2 (.inl e1.1),e1.2⟩⟩⟩
   rw[e1,hk] at e;cases e.2
  ·rw[if_neg hk]
   have Vm:fO kind (x.ks.getD j ⟨#[]⟩)=false:=by simpa using hk
   refine⟨h1.wo _,λkey=>?_⟩
   by_cases he:key=x.ks.getD j ⟨#[]⟩
   ·subst he
    exact⟨λ_=>h1.Pe _,λe=>absurd ⟨(ht _).2 (.inr U),Vm⟩ e⟩
   ·rw[h1.tQ he]
    exact⟨λe=>(h2 key).1 ⟨((ht key).1 e.1).elim id (λe1=>absurd e1 he),e.2⟩,λe=>(h2 key).2 λe1=>e ⟨(ht key).2 (.inl e1.1),e1.2⟩⟩
theorem RX{x:V}(h:O x)(kind:ByteArray):zC kind x=iQ x (fO kind):=by
 obtain⟨h1,h2⟩:=Hd h kind x.ks.length (Nat.le_refl _)
 refine O.ext h1 (h.pick _) λkey=>?_
 have h2:=h2 key
 rw[List.take_length] at h2
 rw[h.Fb]
 cases hk:fO kind key with
 |true=>rw[if_pos U];exact h2.2 λe=>by rw[hk] at e;cases e.2
 |false=>
  rw[if_neg (show ¬(false=true) by decide)]
  by_cases hm:key∈x.ks
  ·exact h2.1 ⟨hm,hk⟩
  ·refine(h2.2 λe=>hm e.1).trans<|Bg<|?_
   cases e:(aI x key).2 with
   |false=>rfl
   |true=>exact absurd (h.has.1 e) hm
def Po(x:V)(key:ByteArray):V:=if key=aQ/\(aI x key).1.k=5 then zC (aI x dK).1.t (aI x key).1 else(aI x key).1
theorem MJ(x:V):∀j,j<=10->O (wM x j)/\∀key,(key∈dC.take j/\(aI x key).2=true->aI (wM x j) key=(Po x key,true))/\(¬(key∈dC.take j/\(aI x key).2=true)->aI (wM x j) key=(zeroV,false))
 |0,_=>⟨O.empty,λkey=>⟨λe=>absurd e.1 List.not_mem_nil,λ_=>rfl⟩⟩
 |j+1,hj=>by
  obtain⟨h1,h2⟩:=MJ x j (by omega)
  have hl:j<dC.length:=by show j<10;omega
  have ht:∀key,key∈dC.take (j+1)↔key∈dC.take j\/key=dC.getD j ⟨#[]⟩:=λkey=>by
   rw[List.take_add_one,List.getElem?_eq_getElem hl,List.mem_append,getD_at hl]
   simp
  have hs:wM x (j+1)=if (aI x (dC.getD j ⟨#[]⟩)).2=true then bH (wM x j) (dC.getD j ⟨#[]⟩) (Po x (dC.getD j ⟨#[]⟩)) else wM x j:=rfl
  rw[hs]
  by_cases hb:(aI x (dC.getD j ⟨#[]⟩)).2=true
  ·rw[if_pos hb]
   refine⟨h1.with _ _,λkey=>?_⟩
   by_cases he:key=dC.getD j ⟨#[]⟩
   ·subst he
    exact⟨λ_=>h1.jO _ _,λe=>absurd ⟨(ht _).2 (.inr U),hb⟩ e⟩
   ·rw[h1.jy he]
    exact⟨λe=>(h2 key).1 ⟨((ht key).1 e.1).elim id (λe1=>absurd e1 he),e.2⟩,λe=>(h2 key).2 λe1=>e ⟨(ht key).2 (.inl e1.1),e1.2⟩⟩
  ·rw[if_neg hb]
   refine⟨h1,λkey=>⟨λe=>(h2 key).1 ⟨((ht key).1 e.1).elim id (λe1=>?_),e.2⟩,λe=>(h2 key).2 λe1=>e ⟨(ht key).2 (.inl e1.1),e1.2⟩⟩⟩
   rw[e1] at e
   exact absurd e.2 hb
theorem YK{x:V}(h:x.k=5->O x/\((aI x aQ).1.k=5->O (aI x aQ).1)):F9 x=jX x:=by
 by_cases h5:x.k=5
 ·obtain⟨ho,hc⟩:=h h5
  obtain⟨h1,h2⟩:=MJ x 10 (Nat.le_refl _)
  have e:F9 x=wM x 10:=by unfold F9;rw[if_pos h5]
  rw[e]
  refine O.ext h1 ho.red λkey=>?_
  have h2:=h2 key
  rw[ho.YH]
  have hm:key∈dC.take 10↔hasB dC key=true:=lJ.symm
  by_cases hf:hasB dC key=true
  ·rw[if_pos hf]
   cases hi:(aI x key).2 with
   |true=>
    refine(h2.1 ⟨hm.2 hf,hi⟩).trans<|?_
    unfold Po
    by_cases hk:key=aQ/\(aI x aQ).1.k=5
    ·obtain⟨rfl,hk5⟩:=hk
     rw[if_pos ⟨rfl,hk5⟩,if_pos ⟨rfl,hk5⟩,RX (hc hk5)]
    ·have hk':¬(key=aQ/\(aI x key).1.k=5):=λe=>hk ⟨e.1,by rw[<-e.1];exact e.2⟩
     rw[if_neg hk,if_neg hk',<-hi]
   |false=>
    refine(h2.2 (λe=>by rw[hi] at e;cases e.2)).trans<|?_
    have hne:¬(key=aQ/\(aI x aQ).1.k=5):=λe=>by
     have h3:=UO e.2
     rw[<-e.1,hi] at h3
     cases h3
    rw[if_neg hne,Bg hi]
  ·rw[if_neg hf]
   exact h2.2 λe=>hf (hm.1 e.1)
 ·unfold F9 jX
  rw[if_neg h5,if_neg h5]
theorem Pp(x:V)(hx:Fits x)(hp:Pr (eZ x))(H:Hp):au Tryz.prog 22 [.agg (aD x)] H (bz H (.v (.string (gX x)))):=by
 have hf1:=ry hx bq
 have hf2:Fits (eZ x):=ry hf1 ic
 have hsz:=Cz hp
 have hbl:=qx (aO (eZ x))
 have hbo:=tK (aO (eZ x))
 have hsl:=pq (bytesOf (aO (eZ x)))
 have hso:=Cu (bytesOf (aO (eZ x)))
 have hw1:∀H,au Tryz.prog 16 [.agg (aD x),.v (.string bq)] H (bz H (.agg (aD (bC x bq)))):=λH=>qE x hx bq H
 have hw2:∀H,au Tryz.prog 16 [.agg (aD (bC x bq)),.v (.string ic)] H (bz H (.agg (aD (eZ x)))):=λH=>qE _ hf1 ic H
 have hpr:∀H,au Tryz.prog 37 [.agg (aD (eZ x))] H (bz H (.v (.string (aO (eZ x))))):=λH=>vw (eZ x) hf2 hp H
 unfold gX
 generalize bC x bq=w1 at*
 generalize eZ x=w2 at*
 generalize aO w2=pt at*
 obtain⟨k,n,t,ks,vs⟩:=x
 refine aF (n:=12) (H0:=H) (I:=[]) Tryz.func22 (by kernel_rfl) U (by rw[Tryz.ntmps22];rfl) .nil<|?_
 refine Q.rg<|S.dd<|D.box U U U λp1=>Q.as U<|Q.nt<|Q.rg<|S.qu (Z.dA 0 av U U U)<|S.qu (Z.call U U (λH=>hw1 H))<|S.qu (Z.call U U (λH=>hw2 H))<|S.qu (Z.call U U (λH=>hpr H))<|Q.as U<|Q.nt<|Q.rg<|Q.mv U<|S.qu (Z.eq (u':=.sl (bf (bytesOf pt))) (Z.s2b Tryz.underlying9 Tryz.underlying22 (by rfl) U (by omega)) (by rw[tL]))<|?_
 refine S.qu (Z.call U U (λH=>GI (bytesOf pt) (by omega) hbo H))<|S.qu (Z.call U U (λH=>u7 (pV (bytesOf pt)) (by omega) hso H))<|Q.as U<|Q.nt<|UW.ret<|S.bK (λ_=>ak U U)<|?_
 rfl
theorem Ka(x:V)(hx:Fits x)(hk:∀s∈x.ks,s.size<=4000000)(hp:Pr (eZ x))(H:Hp):au Tryz.prog 17 [.agg (aD x)] H (bz H (.agg (aD (kD x)))):=by
 have hh:∀H,au Tryz.prog 22 [.agg (aD x)] H (bz H (.v (.string (gX x)))):=λH=>Pp x hx hp H
 have hw2:∀H,au Tryz.prog 18 [.agg (aD x),.v (.string bq),.agg (aD (nO (gX x)))] H (bz H (.agg (aD (kD x)))):=λH=>kJ x hx hk bq _ H
 generalize kD x=sx at*
 generalize gX x=h at*
 obtain⟨k,n,t,ks,vs⟩:=x
 refine aF (n:=13) (H0:=H) (I:=[]) Tryz.func17 (by kernel_rfl) U (by rw[Tryz.ntmps17];rfl) .nil<|?_
 refine Q.rg<|S.dd<|D.box U U U λp1=>S.dd<|D.al z26 U U U λp2=>Q.nt<|Q.rg<|S.qu (Z.eq (u':=strs [fQ]) (Z.bl dV U U (bA U)) U)<|S.qu (Z.dA 1 av U U U)<|S.qu (Z.call U U (λH=>hh H))<|S.qu (Z.call U U (λH=>iM h H))<|S.qu (Z.eq (u':=.sl (aW [cK h])) (Z.bl iP U U (bA U)) U)<|S.qu (Z.eq (u':=.agg (aD (nO h))) (Z.bd [0,3,4] iE U U U U U U) U)<|S.dd<|D.al z26 U U U λp3=>S.s<|D.st 0 av U U U U U U U U λ_=>Q.nt<|Q.rg<|S.qu (Z.dA 2 av U U U)<|S.qu (Z.dA 0 av U U U)<|S.qu (Z.call U U (λH=>hw2 H))<|S.s<|D.uq 1 av U U U U (by exact aA _) (Y _) U U λ_=>?_
 refine Q.nt<|UW.ret<|S.bK (λhd=>aU (k:=1) hd U U U fV (by rw[Y];exact fZ))<|?_
 rfl
theorem UY(s:ByteArray)(hs:s.size<=1000000000)(H:Hp):au Tryz.prog 115 [.v (.string s)] H (bz H (.v (.string (kF++dB (pV (bytesOf s)))))):=by
 have hbl:=qx s
 have hbo:=tK s
 have hsl:=pq (bytesOf s)
 have hso:=Cu (bytesOf s)
 have htz:=(mo (pV (bytesOf s)) (aK 3 11)).2
 have htl:(aK 3 11).length=11:=by decide
 have hte:dB (pV (bytesOf s))=qp (pV (bytesOf s)) (aK 3 11):=by unfold dB;rw[pq]
 rw[<-hte] at htz
 have hds:(⟨#[36]⟩:ByteArray).size=1:=rfl
 unfold kF
 refine aF (n:=8) (H0:=H) (I:=[]) Tryz.func115 (by kernel_rfl) U (by rw[Tryz.ntmps115];rfl) .nil<|?_
 refine Q.rg<|Q.as U<|Q.nt<|Q.rg<|Q.mv U<|S.qu (Z.eq (u':=.sl (bf (bytesOf s))) (Z.s2b Tryz.underlying9 Tryz.underlying22 (by rfl) U (by omega)) (by rw[tL]))<|?_
 refine S.qu (Z.call U U (λH=>GI (bytesOf s) (by omega) hbo H))<|S.qu (Z.call U U (λH=>u7 (pV (bytesOf s)) (by omega) hso H))<|S.qu (Z.cat U U (by omega))<|Q.as U<|Q.nt<|UW.ret<|S.bK (λ_=>ak U U)<|?_
 rfl
theorem UZ(x:V)(hx:Fits x)(hp:Pr (jX x))(he:F9 x=jX x)(H:Hp):au Tryz.prog 79 [.agg (aD x)] H (bz H (.v (.string (zW x)))):=by
 have hsz:=Cz hp
 have hr:∀H,au Tryz.prog 89 [.agg (aD x)] H (bz H (.agg (aD (jX x)))):=λH=>he▸J5 x hx H
 have hpr:∀H,au Tryz.prog 37 [.agg (aD (jX x))] H (bz H (.v (.string (aO (jX x))))):=λH=>vw (jX x) hp.fits hp H
 have hid:∀H,au Tryz.prog 115 [.v (.string (aO (jX x)))] H (bz H (.v (.string (zW x)))):=λH=>UY _ hsz H
 clear he
 generalize zW x=i at*
 generalize jX x=r at*
 generalize aO r=pt at*
 obtain⟨k,n,t,ks,vs⟩:=x
 refine aF (n:=7) (H0:=H) (I:=[]) Tryz.func79 (by kernel_rfl) U (by rw[Tryz.ntmps79];rfl) .nil<|?_
 refine Q.rg<|S.dd<|D.box U U U λp1=>Q.as U<|Q.nt<|Q.rg<|S.qu (Z.dA 0 av U U U)<|S.qu (Z.call U U (λH=>hr H))<|S.qu (Z.call U U (λH=>hpr H))<|S.qu (Z.call U U (λH=>hid H))<|Q.as U<|Q.nt<|UW.ret<|S.bK (λ_=>ak U U)<|?_
 rfl
def Fh(l:List (ByteArray×V)):Nat:=(l.map λp=>rq p.2+6*p.1.size+5).sum
theorem MK(l:List (ByteArray×V)):(∀p∈l,ky p.2)->Wt (30+Fh l) (dL l):=by
 refine vC (P:=λl=>(∀p∈l,ky p.2)->Wt (30+Fh l) (dL l)) (λ_=> .leaf (by decide) (by decide)) (λl p ih h=>?_) l
 rw[kK]
 have h1:=ih λq hq=>h q (List.mem_append.2 (.inl hq))
 have h2:Wt (rq p.2) p.2:=⟨h p (by simp),Nat.le_refl _⟩
 refine(h1.with h2 (Nat.le_refl p.1.size)).up ?_
 unfold Fh
 rw[List.map_append,List.sum_append]
 simp
 omega
theorem zK(l:List (ByteArray×V)):(∀p∈l,Fits p.2/\p.1.size<=4000000)->Ev (dL l) l.length:=by
 refine vC (P:=λl=>(∀p∈l,Fits p.2/\p.1.size<=4000000)->Ev (dL l) l.length) (λ_=>zD) (λl p ih h=>?_) l
 rw[kK,List.length_append]
 exact(ih λq hq=>h q (List.mem_append.2 (.inl hq))).with (h p (by simp)).2 (h p (by simp)).1
def wV(d:Int)(x:V):Prop:=∀v∈x.vs,dh v<=d
theorem wV.with{d:Int}{x:V}(h:wV d x)(ho:O x){key:ByteArray}{y:V}(hy:dh y<=d):wV d (bH x key y):=λv hv=>((Ha ho key y).2 v hv).elim (h v) (λe=>e▸hy)
theorem wV.deep{d:Int}{x:V}(hd:0<=d)(h:wV d x):dh x<=d+1:=by obtain⟨k,n,t,ks,vs⟩:=x;exact qZ hd h
theorem Pq{d:Int}(l:List (ByteArray×V)):(∀p∈l,dh p.2<=d)->wV d (dL l):=by
 refine vC (P:=λl=>(∀p∈l,dh p.2<=d)->wV d (dL l)) (λ_ v hv=>absurd hv List.not_mem_nil) (λl p ih h=>?_) l
 rw[kK]
 exact(ih λq hq=>h q (List.mem_append.2 (.inl hq))).with (tV l) (h p (by simp))
theorem ig(k n:Int)(t:ByteArray):dh (.mk k n t [] [])<=1:=qZ (d:=0) (by decide) (λv h=>by cases h)
theorem RY(t:ByteArray):dh (nO t)<=2:=qZ (d:=1) (ks:=[fQ]) (vs:=[cK t]) (by decide) (λv h=>by rw[List.mem_singleton.1 h];exact ig _ _ _)
theorem Fj(l:List ByteArray):dh (eX l)<=2:=qZ (d:=1) (ks:=[]) (vs:=l.map cK) (by decide) (λv h=>by obtain⟨s,_,rfl⟩:=List.mem_map.1 h;exact ig _ _ _)
theorem zL(s:ByteArray):ky (cK s):=tN (by decide) (λx h=>by cases h)
theorem He(l:List ByteArray):ky (eX l):=tN (by decide) (λx h=>by obtain⟨s,_,rfl⟩:=List.mem_map.1 h;exact zL s)
theorem ML(l:List ByteArray)(ah:Nat)(h:∀s∈l,s.size<=ah):dW (l.map cK)<=(31+6*ah)*l.length:=by
 induction l with
 |nil=>exact Nat.zero_le _
 |cons s r ih=>
  have h1:=ih λx hx=>h x (List.mem_cons_of_mem _ hx)
  have h2:=h s (List.mem_cons_self ..)
  have e:rq (cK s)=30+6*s.size+0+0:=jB ..
  rw[List.map_cons,dW,e,List.length_cons,Nat.mul_add]
  omega
theorem Fp{l:List ByteArray}(h:l.length<=1000000):Fits (eX l):=.mk _ _ _ _ _ (Nat.zero_le _) (by rw[List.length_map];exact h) (λy hy=>by obtain⟨s,_,rfl⟩:=List.mem_map.1 hy;exact jY s)
structure Sm(e:EV):Prop where
 prev:e.prev.length<=24/\∀s∈e.prev,s.size<=44
 dH:e.dH.length<=24/\∀s∈e.dH,s.size<=44
 txt:e.ty.size<=100/\e.key.size<=100/\e.sender.size<=100/\e.room.size<=100
 num:(-9223372036854775808<=e.depth/\e.depth<=9223372036854775807)/\ -9223372036854775808<=e.time/\e.time<=9223372036854775807
 wt:Wt 25000 e.body
 deep:dh e.body<=31
 fits:Fits e.body
 o:O e.body
 few:e.body.ks.length<=1000
theorem Qt{n:Int}(h: -9223372036854775808<=n/\n<=9223372036854775807):ky (mU n):=tN h (λx h=>by cases h)
theorem Sm.pairs{e:EV}(h:Sm e):(∀p∈bT e,ky p.2/\dh p.2<=31/\Fits p.2/\p.1.size<=4000000)/\(bT e).length<=9/\30+Fh (bT e)<=45000:=by
 have hp:=ML e.prev 44 h.prev.2
 have ha:=ML e.dH 44 h.dH.2
 have hpl:=h.prev.1
 have hal:=h.dH.1
 obtain⟨t1,t2,t3,t4⟩:=h.txt
 refine⟨λp hm=>?_,?_,?_⟩
 ·have hc:p∈[(gK,eX e.dH),(aQ,e.body),(eu,mU e.depth),(iR,mU e.time),(gV,eX e.prev),(gY,cK e.room),(bZ,cK e.sender),(dK,cK e.ty),(dX,cK e.key)]:=by
   rcases List.mem_append.1 hm with h1|h1
   ·exact List.mem_append_left [(dX,cK e.key)] h1
   ·split at h1
    ·rw[List.mem_singleton] at h1;rw[h1];simp
    ·cases h1
  have up:∀{x:V},dh x<=2->dh x<=31:=λh=>by omega
  have up1:∀{x:V},dh x<=1->dh x<=31:=λh=>by omega
  have hz:∀s∈[gK,aQ,eu,iR,gV,gY,bZ,dK,dX],s.size<=4000000:=by decide
  simp only[List.mem_cons,List.not_mem_nil,or_false] at hc
  rcases hc with rfl|rfl|rfl|rfl|rfl|rfl|rfl|rfl|rfl
  ·exact⟨He _,up (Fj _),Fp (by omega),hz _ (by simp)⟩
  ·exact⟨h.wt.num,h.deep,h.fits,hz _ (by simp)⟩
  ·exact⟨Qt h.num.1,up1 (ig _ _ _),mD _ _ _,hz _ (by simp)⟩
  ·exact⟨Qt h.num.2,up1 (ig _ _ _),mD _ _ _,hz _ (by simp)⟩
  ·exact⟨He _,up (Fj _),Fp (by omega),hz _ (by simp)⟩
  ·exact⟨zL _,up1 (ig _ _ _),jY _,hz _ (by simp)⟩
  ·exact⟨zL _,up1 (ig _ _ _),jY _,hz _ (by simp)⟩
  ·exact⟨zL _,up1 (ig _ _ _),jY _,hz _ (by simp)⟩
  ·exact⟨zL _,up1 (ig _ _ _),jY _,hz _ (by simp)⟩
 ·unfold bT;split<;>simp
 ·have e1:∀s:ByteArray,rq (cK s)=30+6*s.size+0+0:=λs=>jB ..
  have e2:∀n:Int,rq (mU n)=30+6*0+0+0:=λn=>jB ..
  have e3:∀l:List ByteArray,rq (eX l)=30+6*0+0+dW (l.map cK):=λl=>jB ..
  have hb:=h.wt.wt
  have z1:gK.size=11:=rfl
  have z2:aQ.size=7:=rfl
  have z3:eu.size=5:=rfl
  have z4:iR.size=16:=rfl
  have z5:gV.size=11:=rfl
  have z6:gY.size=7:=rfl
  have z7:bZ.size=6:=rfl
  have z8:dK.size=4:=rfl
  have z9:dX.size=9:=rfl
  unfold bT Fh
  split
  ·simp only[List.cons_append,List.nil_append,List.map_cons,List.map_nil,List.sum_cons,List.sum_nil,e1,e2,e3,z1,z2,z3,z4,z5,z6,z7,z8,z9]
   omega
  ·simp only[List.cons_append,List.nil_append,List.map_cons,List.map_nil,List.sum_cons,List.sum_nil,List.append_nil,e1,e2,e3,z1,z2,z3,z4,z5,z6,z7,z8,z9]
   omega
structure RD(v:V):Prop where
 o:O v
 ev:Ev v 20
 wt:Wt 60000 v
 deep:wV 31 v
theorem RD.fits{v:V}(h:RD v):Fits v:=h.ev.fits (by decide)
theorem Sm.rd{e:EV}(h:Sm e):RD (iI e):=by
 obtain⟨h1,h2,h3⟩:=h.pairs
 have he:Ev (iI e) (bT e).length:=zK _ λp hp=>(h1 p hp).2.2
 exact⟨pM e,⟨he.k,he.len,he.GR,by have:=he.le;omega,he.keys,he.vals⟩,(MK _ λp hp=>(h1 p hp).1).up (by omega),Pq _ λp hp=>(h1 p hp).2.1⟩
theorem Sm.fields{e:EV}(h:Sm e):Ev (iI e) 9/\Wt 45000 (iI e):=by
 obtain⟨h1,h2,h3⟩:=h.pairs
 have he:Ev (iI e) (bT e).length:=zK _ λp hp=>(h1 p hp).2.2
 exact⟨⟨he.k,he.len,he.GR,by have:=he.le;omega,he.keys,he.vals⟩,(MK _ λp hp=>(h1 p hp).1).up h3⟩
theorem Sm.made{e:EV}(h:Sm e):Ev (dx e) 10/\Wt 45600 (dx e)/\wV 31 (dx e):=by
 obtain⟨h1,h2⟩:=h.fields
 exact⟨h1.with (by decide) (E8 _),h2.J8,h.rd.deep.with (pM e) (by have:=RY (gX (iI e));omega)⟩
theorem Sm.make{e:EV}(h:Sm e):RD (dx e):=by
 obtain⟨h1,h2,h3⟩:=h.made
 exact⟨UU e,⟨h1.k,h1.len,h1.GR,by have:=h1.le;omega,h1.keys,h1.vals⟩,h2.up (by decide),h3⟩
theorem RD.print{v:V}(h:RD v):(aO v).size<=65536:=by
 have:=vv h.wt.num
 have:=h.wt.wt
 omega
theorem RD.dep{v:V}(h:RD v):dh v<=32:=by have:=h.deep.deep (by decide);omega
theorem RD.pr{v:V}(h:RD v):Pr v:=Qr h.fits (h.wt.up (by decide))
theorem RD.Gb{v:V}(h:RD v):Pr (eZ v):=Qq h.fits (h.wt.up (by decide))
theorem RD.fitsR{v:V}(h:RD v):Fits (jX v):=MB h.fits (by have:=h.ev.le;omega)
theorem RD.prR{v:V}(h:RD v):Pr (jX v):=Qr h.fitsR ((h.wt.red (by decide)).up (by decide))
section
variable (um nG:ByteArray->Bool) (lN:List ByteArray->Bool)
theorem RZ{v:V}{e:EV}(h:F4 v e)(hr:RD v)(h5:e.body.k=5)(hf:MF um nG lN e=true)(hh:kE v=true):Ff um nG lN v=({J9 e with id:=zW v},0):=by
 have h1:=h.ok h5 um nG lN
 have h2:=hr.dep
 have h3:=hr.print
 unfold Ff
 rw[h1,hf,if_neg (by decide),if_neg (by omega),if_neg (by omega),hh,if_neg (by decide),h.ev]
end
def ni(c:Int):Int:=match (List.range 64).find? (λi:Nat=>eG lH (i:Int)==c) with|some i=>(i:Int)|none=> -1
theorem YL(c:Int): -1<=ni c/\ni c<64:=by
 unfold ni
 split
 ·rename_i i h
  have:=(List.find?_range_eq_some.1 h).2.1
  rw[List.mem_range] at this
  omega
 ·omega
theorem YM:(List.range 64).all (λd:Nat=>ni (eG lH (d:Int))==(d:Int))=true:=by kernel_rfl
theorem Fq{d:Int}(h0:0<=d)(h1:d<64):ni (eG lH d)=d:=by
 have:=List.all_eq_true.1 YM d.toNat (List.mem_range.2 (by omega))
 rw[Int.toNat_of_nonneg h0] at this
 simpa using this
def dgt(s:ByteArray)(j:Nat):Int:=if j<s.size then ni (eG s (j:Int)) else 0
def YN(s:ByteArray)(k:Nat):Nat->Int
 |0=>0
 |j+1=>64*YN s k j+dgt s (4*k+j)
def manyN(s:ByteArray)(k:Nat):Nat:=min (s.size-4*k) 4
def YO(s:ByteArray)(k j:Nat):Int:=IntKind.u8.wrap (YN s k 4/2^(16-8*j))
def gB(s:ByteArray)(k m:Nat):List Int:=(List.range m).map (YO s k)
def Qu(s:ByteArray):Nat->List Int
 |0=>[]
 |k+1=>Qu s k++gB s k (manyN s k-1)
def Hf(s:ByteArray):List Int:=Qu s ((s.size+3)/4)
def Qv(s:ByteArray):Bool:=(List.range s.size).all λj=>decide (0<=ni (eG s (j:Int)))
def U0(s:ByteArray):Option (List Int):=if Qv s=true then(if (dB (Hf s)).toList==s.toList then some (Hf s) else none) else none
theorem gB_len(s:ByteArray)(k m:Nat):(gB s k m).length=m:=by unfold gB;simp
theorem U1{s:ByteArray}(h:∀j,j<s.size->0<=ni (eG s (j:Int))):Qv s=true:=List.all_eq_true.2 λj hj=>decide_eq_true (h j (List.mem_range.1 hj))
theorem okS_no{s:ByteArray}{j:Nat}(hj:j<s.size)(h:ni (eG s (j:Int))<0):Qv s=false:=by
 cases e:Qv s with
 |false=>rfl
 |true=>
  have:=of_decide_eq_true (List.all_eq_true.1 e j (List.mem_range.2 hj))
  omega
theorem YP{s:ByteArray}(h:Qv s=false):U0 s=none:=by unfold U0;rw[if_neg (by rw[h];decide)]
theorem YQ{s:ByteArray}(h:Qv s=true):U0 s=if (dB (Hf s)).toList==s.toList then some (Hf s) else none:=by unfold U0;rw[if_pos h]
end Go.Proofs.YtonpfomjoiaacaaGreatDoor
end
