/- A part of the proof. -/
import Derived.Test.YtonpfomjoiaacaaGreatDoorMz11
set_option maxRecDepth 100000
set_option maxHeartbeats 4000000
set_option linter.unusedSectionVars false
set_option linter.unusedVariables false
set_option linter.unusedSimpArgs false
section
namespace Go.Proofs.YtonpfomjoiaacaaGreatDoor
open Go Go.fT Go.RowKit
def Ii(H:Hp)(e sz:Nat)(rows:List (List AV))(u:AV)(H':Hp):Prop:=∃news,aM H news/\H'=aC H news/\∃i,u=.own i 0 rows.length sz/\news=[(i,.row e sz rows)]
theorem jU(l:List ByteArray):∀cs∈l.map encS,cs.length=1:=by
 intro cs h;obtain⟨s,_,rfl⟩:=List.mem_map.1 h;rfl
theorem aP(l:List V):(aW l).length=l.length:=by rw[eB,List.length_map]
theorem jq(l:List V):∀cs∈aW l,cs.length=5:=by
 intro cs h;rw[eB] at h;obtain⟨s,_,rfl⟩:=List.mem_map.1 h;exact Y s
theorem Dm(l:List ByteArray)(hl:l.length*16<=140737488355328)(H:Hp):
 au Tryz.prog 43 [strs l] H (Ii H 9 1 (l.map encS)):=by
 refine aF (n:=8) (H0:=H) (I:=[]) Tryz.func43 (by kernel_rfl) U (by rw[Tryz.ntmps43];rfl) .nil<|?_
 refine Q.rg<|Q.as U<|Q.nt<|UW.seq<|Q.rg<|Q.mv U<|US.Cj U (by decide) U U Tryz.underlying23 U λc4 hc4=>Q.nt<|?_
 refine UW.cond U (λh=>?_) (λh=>?_)
 ·have hl0:=hc4 h
  refine Q.rg<|Q.as U<|US.kG 2 9 1 (by decide) U λi=>US.nil<|UQ.then<|UW.ret<|UQ.ax<|bN [(i,.row 9 1 [])] (λ_=>ak U U) (by simp) λhd=>?_
  exact⟨_,hd,rfl,i,by rw[hl0];rfl,by rw[hl0]⟩
 ·refine UW.skip<|UQ.then<|Q.rg<|US.lit U (by decide) U U dV (by decide) U U U (by simp) λp5=>?_
  refine Q.mv U<|US.gQ U (by decide) U U dV U (k:=0) U (by simp) U (rO.sl (jU l)) (by simp;omega) U λp7=>?_
  refine Q.as U<|Q.nt<|UW.ret<|bN [(p7,_)] (λ_=>ak U U) (.refl _) λhd=>?_
  exact⟨_,hd,rfl,p7,by simp,by simp⟩
inductive Fits:V->Prop
 |mk (k n:Int) (t:ByteArray) (ks:List ByteArray) (vs:List V) (h1:ks.length<=1000000) (h2:vs.length<=1000000) (h:∀x∈vs,Fits x):Fits (.mk k n t ks vs)
def Tq(H:Hp)(x:V)(u:AV)(H':Hp):Prop:=∃news,aM H news/\H'=aC H news/\∃i j,u=.agg [.v (.int .i64 x.k),.v (.int .i64 x.n),.v (.string x.t),.own i 0 x.ks.length 1,.own j 0 x.vs.length 5]/\news=[(j,.row 26 5 (aW x.vs)),(i,.row 9 1 (x.ks.map encS))]
theorem fK(l:List V)(k:Nat)(h:k<l.length):(aW l)[k]? =some (aD l[k]):=by rw[eB,List.getElem?_map,List.getElem?_eq_getElem h];rfl
theorem Dn(l:List V)(k:Nat)(h:k<l.length):(aW l).take k++[aD l[k]]=(aW l).take (k+1):=by
 rw[List.take_add_one,fK l k h];rfl
theorem F5(l:List V)(hl:l.length<=1000000)(hc:∀x∈l,∀H,au Tryz.prog 44 [.agg (aD x)] H (bz H (.agg (aD x))))(H:Hp):
 au Tryz.prog 93 [.sl (aW l),.gN 44 []] H (Ii H 26 5 (aW l)):=by
 refine aF (n:=22) (H0:=H) (I:=[]) Tryz.func93 (by kernel_rfl) U (by rw[Tryz.ntmps93];rfl) .nil<|?_
 refine Q.rg<|Q.as U<|Q.nt<|Q.rg<|Q.as U<|US.kG 5 26 5 (by decide) U λi0=>US.nil<|UQ.then<|UW.seq<|Q.rg<|Q.mv U<|US.fC U (by decide) U U bM U<|Q.mv U<|Q.nt<|UW.block<|UW.loop (λp:Nat×Nat=>[(10,.v (.int .i64 (p.1:Int))),(5,.own p.2 0 p.1 5),(8,.sl (aW l)),(9,.v (.int .i64 ((aW l).length:Int))),(1,.gN 44 [])]) (λp=>[(p.2,.row 26 5 ((aW l).take p.1))]) (λp=>p.1<=l.length) (λp=>l.length-p.1) (0,i0) (Nat.zero_le _) ⟨rfl,rfl,rfl,rfl,rfl,trivial⟩ (.refl _)<|?_
 rintro⟨k,id⟩ hk
 simp only at hk
 have hll:=aP l
 refine Q.rg<|Q.bi U U U<|Q.nt<|UW.seq<|?_
 refine UW.cond U (λh=>?_) (λh=>?_)
 ·have h:=of_decide_eq_true h
  have hlt:k<l.length:=by omega
  refine UW.skip<|UQ.then<|UW.seq<|UW.block<|Q.rg<|US.bI U (by decide) U U bM U U (by omega) (fK l k hlt) (Y _)<|US.fB U (by decide) U U U av (by exact Y _)<|?_
  refine US.nz U (by decide) U U z26 U U U U λp7=>US.bU U U U av U (k:=0) U (by rfl) U U (by exact aA _) (by exact Y _) U<|?_
  refine Q.nt<|UW.region<|Q.mv U<|Q.mv U<|US.dI U (by decide) U U av U (k:=0) U (by exact Y _)<|?_
  refine US.dz U (by decide) U U U U (λ_=>hc _ (List.getElem_mem hlt) _)<|US.oK U (by decide) U U iP (by decide) U U U (by(intro cs h;cases List.mem_singleton.1 h;exact⟨by exact aA _,by exact Y _⟩))<|?_
  refine US.gQ U (by decide) U U iP U (k:=1) U (by rw[List.length_take];omega) U (rO.sl (λcs h=>by cases List.mem_singleton.1 h;exact Y _)) (by(simp;omega)) (Eq.trans (by rw[List.take_take,Nat.min_self]) (Dn l k hlt)) λZ9=>?_
  refine Q.as U<|US.nil<|UQ.aB<|UQ.then<|UW.region<|US.add U (by decide) U U U U (IntWalk.i64_in _ (by omega))<|Q.mv U<|?_
  exact US.round (a':=(k+1,Z9)) (by simp only;omega) (by simp only;omega) ⟨rfl,rfl,rfl,rfl,rfl,trivial⟩ (by simp)
 ·have h:=of_decide_eq_false h
  have hkl:k=l.length:=by simp only at h;omega
  refine UW.exit<|UQ.pass<|UQ.pass<|UQ.here<|UQ.then<|Q.rg<|Q.mv U<|Q.as U<|Q.nt<|UW.ret<|bN [(id,_)] (λ_=>ak U U) (.refl _) λhd=>?_
  exact⟨_,hd,rfl,id,by rw[hll,hkl],by rw[hkl,<-hll,List.take_length]⟩
theorem ku{H:Hp}{news:List (Nat×Ob)}(hd:aM H news):Sub H (aC H news):=fU (r':=[]) hd .nil (by simp)
theorem Dp{H:Hp}{news:List (Nat×Ob)}(hd:aM H news){k i:Nat}{rows:List (List AV)}{e sz:Nat}(h:news[k]? =some (i,.row e sz rows)):bL (aC H news) (.own i 0 rows.length sz) H (.sl rows):=by
 have h1:=bL.own (off:=0) (len:=rows.length) (rows':=rows) (ku hd) (hd.at_ h) (hd.base h) (by omega) U (λi cs cs' h1 h2=>by
  rw[h1] at h2;cases h2
  exact⟨rfl,λj u u' h3 h4=>by rw[h3] at h4;cases h4;exact bL.drop (ku hd) u⟩)
 simpa using h1
theorem Dq{H H':Hp}{a b c d e d' e':AV}(hs:Sub H' H)(h1:bL H d H' d')(h2:bL H e H' e'):bL H (.agg [a,b,c,d,e]) H' (.agg [a,b,c,d',e']):=by
 refine bL.agg U λj u u' h3 h4=>?_
 match j with
 |0=>simp at h3 h4;subst h3 h4;exact bL.drop hs _
 |1=>simp at h3 h4;subst h3 h4;exact bL.drop hs _
 |2=>simp at h3 h4;subst h3 h4;exact bL.drop hs _
 |3=>simp at h3 h4;subst h3 h4;exact h1
 |4=>simp at h3 h4;subst h3 h4;exact h2
 |j+5=>simp at h3
theorem iW{P:Program}{f:Nat}{us:List AV}{H:Hp}{x:V}(h:au P f us H (Tq H x)):au P f us H (bz H (.agg (aD x))):=by
 refine h.post<|?_
 rintro u H1 ⟨news,hd,rfl,i,j,rfl,rfl⟩
 refine⟨.agg (aD x),H,ku hd,?_,rfl,rfl⟩
 obtain⟨k,n,t,ks,vs⟩:=x
 simp only[aD,V.k,V.n,V.t,V.ks,V.vs] at hd⊢
 refine Dq (ku hd) ?_ ?_
 ·have:=Dp hd (k:=1) U
  rwa [List.length_map] at this
 ·have:=Dp hd (k:=0) U
  rwa [aP] at this
theorem jV(x:V)(hx:Fits x):∀H,au Tryz.prog 44 [.agg (aD x)] H (Tq H x):=by
 induction hx with
 |mk k n t ks vs h1 h2 h ih=>
 intro H
 refine aF (n:=12) (H0:=H) (I:=[]) Tryz.func44 (by kernel_rfl) U (by rw[Tryz.ntmps44];rfl) .nil<|?_
 refine Q.rg<|US.box U (by decide) U U U U (by rfl) λp1=>?_
 refine US.nz U (by decide) U U z26 U U U U λp2=>Q.nt<|Q.rg<|US.fieldAddr U (by decide) U U U dw<|Q.lc 1 dD U U U<|?_
 refine US.lq U (by decide) U U U U (λhd=>Dm ks (by omega) _) ?_;rintro _ _ ⟨p5,rfl,rfl⟩;simp only[List.cons_append,List.nil_append]
 refine US.fieldAddr U (by decide) U U U dw<|US.fD U U U dD U (k:=2) U U U (by rfl) (by rfl) U U<|?_
 refine Q.nt<|Q.rg<|US.fieldAddr U (by decide) U U U bO<|Q.lc 2 dF U U U<|?_
 refine US.lq U (by decide) U U U U (λhd=>F5 vs h2 (λx hx H=>iW (ih x hx H)) _) ?_;rintro _ _ ⟨p9,rfl,rfl⟩;simp only[List.cons_append,List.nil_append]
 refine US.fieldAddr U (by decide) U U U bO<|US.fD U U U dF U (k:=3) U U U (by rfl) (by rfl) U U<|?_
 refine Q.nt<|Q.rg<|US.dI U (by decide) U U av U (k:=3) U (by rfl)<|?_
 refine US.bU U U U av U (k:=2) U (by rfl) U U (by rfl) (by rfl) U<|?_
 refine Q.nt<|UW.ret<|?_
 simp only[List.set_cons_succ,List.set_cons_zero]
 refine bN [(p9,_),(p5,_)] (λhd=>aU (k:=2) hd U U U fV fZ) (.cons_cons _ (.cons_cons _ (List.nil_sublist _))) λhd=>?_
 exact⟨_,hd,rfl,p5,p9,by simp only[V.k,V.n,V.t,V.ks,V.vs,List.length_map,aP],rfl⟩
def cz(l:List ByteArray)(s:ByteArray):Option Nat:=l.findIdx? (λx=>s.toList==x.toList)
def oi:Option Nat->Int
 |none=> -1
 |some i=>i
theorem Ao{l:List ByteArray}{s:ByteArray}{k:Nat}(hk:k<l.length)(h:(s.toList==l[k].toList)=true)(hj:∀j (h:j<l.length),j<k->(s.toList==l[j].toList)=false):cz l s=some k:=by
 unfold cz
 rw[List.findIdx?_eq_some_iff_getElem]
 exact⟨hk,h,λj hjk=>by rw[hj j (by omega) hjk];simp⟩
theorem Bt{l:List ByteArray}{s:ByteArray}(hj:∀j (h:j<l.length),(s.toList==l[j].toList)=false):cz l s=none:=by
 unfold cz
 rw[List.findIdx?_eq_none_iff]
 intro x hx
 obtain⟨j,hj2,rfl⟩:=List.getElem_of_mem hx
 exact hj j hj2
theorem l8{l:List ByteArray}{s:ByteArray}{i:Nat}(h:cz l s=some i):i<l.length:=by
 unfold cz at h
 rw[List.findIdx?_eq_some_iff_getElem] at h
 exact h.1
theorem eD(l:List ByteArray)(k:Nat)(h:k<l.length):(l.map encS)[k]? =some (encS l[k]):=by rw[List.getElem?_map,List.getElem?_eq_getElem h];rfl
theorem index_spec(l:List ByteArray)(s:ByteArray)(hl:l.length<=1000000)(H:Hp):
 au Tryz.prog 140 [strs l,.v (.string s)] H (bz H (.v (.int .i64 (oi (cz l s))))):=by
 refine aF (n:=19) (H0:=H) (I:=[]) Tryz.func140 (by kernel_rfl) U (by rw[Tryz.ntmps140];rfl) .nil<|?_
 refine Q.rg<|Q.as U<|Q.nt<|UW.seq<|Q.rg<|Q.mv U<|US.fC U (by decide) U U aY U<|Q.mv U<|Q.nt<|UW.block<|UW.loop (λk:Nat=>[(8,.v (.int .i64 (k:Int))),(6,strs l),(7,.v (.int .i64 ((l.map encS).length:Int))),(0,strs l),(1,.v (.string s))]) (λ_=>[]) (λk=>k<=l.length/\∀j (h:j<l.length),j<k->(s.toList==l[j].toList)=false) (λk=>l.length-k) 0 ⟨Nat.zero_le _,λj _ h=>absurd h (by omega)⟩ ⟨rfl,rfl,rfl,rfl,rfl,trivial⟩ (.refl _)<|?_
 rintro k ⟨hk,hj⟩
 refine Q.rg<|Q.bi U U U<|Q.nt<|UW.seq<|?_
 refine UW.cond U (λh=>?_) (λh=>?_)
 ·have h:=of_decide_eq_true h
  rw[List.length_map] at h
  have hlt:k<l.length:=by omega
  refine UW.skip<|UQ.then<|UW.seq<|UW.block<|Q.rg<|Q.mv U<|Q.as U<|Q.nt<|Q.rg<|Q.mv U<|Q.mv U<|Q.mv U<|US.bI U (by decide) U U aY U U (by omega) (eD l k hlt) U<|US.bD U (by decide) U U U ed<|US.iG U (by decide) U U U U U<|Q.nt<|?_
  refine UW.cond U (λh2=>?_) (λh2=>?_)
  ·refine Q.rg<|Q.mv U<|Q.as U<|Q.nt<|UW.ret<|UQ.aH<|UQ.ax<|UQ.ax<|UQ.aH<|UQ.ax<|?_
   refine bN [] (λ_=>ak U U) (.refl _) λhd=>⟨?_,rfl⟩
   rw[Ao hlt h2 hj];rfl
  ·refine UW.skip<|UQ.aB<|UQ.then<|UW.region<|US.add U (by decide) U U U U (IntWalk.i64_in _ (by omega))<|Q.mv U<|?_
   exact US.round (a':=k+1) ⟨by omega,λj h3 h4=>by
    by_cases hjk:j=k
    ·subst hjk;exact h2
    ·exact hj j h3 (by omega)⟩ (by omega) ⟨rfl,rfl,rfl,rfl,rfl,trivial⟩ (.refl _)
 ·have h:=of_decide_eq_false h
  rw[List.length_map] at h
  refine UW.exit<|UQ.pass<|UQ.pass<|UQ.here<|UQ.then<|Q.rg<|Q.as U<|Q.nt<|UW.ret<|?_
  refine bN [] (λ_=>ak U U) (.refl _) λhd=>⟨?_,rfl⟩
  rw[Bt (λj h3=>hj j h3 (by omega))];rfl
def pl(x:V)(key:ByteArray):Option Nat:=if x.k=5 then(match cz x.ks key with|some i=>if i<x.vs.length then some i else none|none=>none) else none
theorem oW(x:V)(key:ByteArray)(hx:Fits x)(H:Hp):
 au Tryz.prog 98 [.agg (aD x),.v (.string key)] H (bz H (.v (.int .i64 (oi (pl x key))))):=by
 cases hx with
 |mk k n t ks vs h1 h2 h=>
 refine aF (n:=19) (H0:=H) (I:=[]) Tryz.func98 (by kernel_rfl) U (by rw[Tryz.ntmps98];rfl) .nil<|?_
 refine Q.rg<|US.box U (by decide) U U U U (by rfl) λp2=>?_
 refine Q.as U<|Q.nt<|UW.seq<|Q.rg<|?_
 by_cases hk:k=5
 ·refine US.fieldAddr U (by decide) U U U bP<|Q.lc 0 eQ U U U<|US.az U (by decide) U U U U (r:=.bool false) (by(simp[dZ,eH,hk];done))<|?_
  refine Q.nt<|UW.cond U (λh=>absurd h (by simp)) λ_=>?_
  refine UW.skip<|UQ.then<|UW.seq<|Q.rg<|US.fieldAddr U (by decide) U U U dw<|Q.lc 0 dD U U U<|Q.mv U<|US.dz U (by decide) U U U U (λ_=>index_spec ks key h1 _)<|Q.as U<|Q.nt<|Q.rg<|Q.mv U<|US.fieldAddr U (by decide) U U U bO<|Q.lc 0 dF U U U<|US.fC U (by decide) U U bM U<|Q.bi U U U<|Q.nt<|?_
  refine UW.cond U (λh=>?_) (λh=>?_)
  ·refine Q.rg<|Q.mv U<|Q.as U<|Q.nt<|UW.ret<|UQ.ax<|?_
   refine bN [] (λ_=>ak U U) (by simp) λhd=>⟨?_,rfl⟩
   have h:=of_decide_eq_true h
   rw[aP] at h
   simp only[pl,V.k,V.ks,V.vs,hk,if_true]
   cases hi:cz ks key with
   |none=>rfl
   |some i=>
    rw[hi] at h
    have hlt:i<vs.length:=by simp only[oi] at h;omega
    simp[oi,hlt]
  ·refine UW.skip<|UQ.then<|Q.rg<|Q.as U<|Q.nt<|UW.ret<|?_
   refine bN [] (λ_=>ak U U) (by simp) λhd=>⟨?_,rfl⟩
   have h:=of_decide_eq_false h
   rw[aP] at h
   simp only[pl,V.k,V.ks,V.vs,hk,if_true]
   cases hi:cz ks key with
   |none=>rw[hi] at h;simp only[oi] at h;omega
   |some i=>
    rw[hi] at h
    have hlt:¬i<vs.length:=by simp only[oi] at h;omega
    simp[oi,hlt]
 ·refine US.fieldAddr U (by decide) U U U bP<|Q.lc 0 eQ U U U<|US.az U (by decide) U U U U (r:=.bool true) (by(simp[dZ,eH,hk];done))<|?_
  refine Q.nt<|?_
  refine UW.cond U (λ_=>?_) (λh=>absurd h (by simp))
  refine Q.rg<|Q.as U<|Q.nt<|UW.ret<|UQ.ax<|?_
  refine bN [] (λ_=>ak U U) (by simp) λhd=>⟨?_,rfl⟩
  simp only[pl,V.k,hk,if_false];rfl
theorem Dr{x:V}{key:ByteArray}{i:Nat}(h:pl x key=some i):i<x.vs.length/\i<x.ks.length/\x.k=5:=by
 unfold pl at h
 split at h
 ·rename_i hk
  cases hi:cz x.ks key with
  |none=>rw[hi] at h;simp at h
  |some j=>
   rw[hi] at h
   simp only at h
   split at h
   ·cases h;exact⟨by assumption,l8 hi,hk⟩
   ·cases h
 ·cases h
theorem Fits.vs{x:V}(h:Fits x):∀y∈x.vs,Fits y:=by cases h with|mk k n t ks vs h1 h2 h=>exact h
theorem Fits.VE{x:V}(h:Fits x):x.ks.length<=1000000:=by cases h with|mk k n t ks vs h1 h2 h=>exact h1
theorem Fits.Vl{x:V}(h:Fits x):x.vs.length<=1000000:=by cases h with|mk k n t ks vs h1 h2 h=>exact h2
def cutV(x:V):V:=.mk x.k x.n x.t (x.ks.take (min x.ks.length x.vs.length)) (x.vs.take (min x.ks.length x.vs.length))
theorem Fits.cut{x:V}(h:Fits x):Fits (cutV x):=.mk _ _ _ _ _ (by rw[List.length_take];have:=h.VE;omega) (by rw[List.length_take];have:=h.Vl;omega) (λy hy=>h.vs y (List.mem_of_mem_take hy))
theorem NB(l:List V)(k:Nat):aW (l.take k)=(aW l).take k:=by rw[eB,eB,List.map_take]
theorem uO(x:V)(hx:Fits x)(H:Hp):
 au Tryz.prog 109 [.agg (aD x)] H (Tq H (cutV x)):=by
 have hf:=hx
 cases hx with
 |mk k n t ks vs h1 h2 h=>
 have hkl:(ks.map encS).length=ks.length:=List.length_map ..
 have hvl:=aP vs
 refine aF (n:=23) (H0:=H) (I:=[]) Tryz.func109 (by kernel_rfl) U (by rw[Tryz.ntmps109];rfl) .nil<|?_
 refine Q.rg<|US.box U (by decide) U U U U (by rfl) λp1=>?_
 refine US.nz U (by decide) U U z26 U U U U λp2=>Q.nt<|Q.rg<|US.fieldAddr U (by decide) U U U dw<|Q.lc 1 dD U U U<|US.fC U (by decide) U U aY U<|US.fieldAddr U (by decide) U U U bO<|Q.lc 1 dF U U U<|US.fC U (by decide) U U bM U<|?_
 refine US.min2' U (by decide) U U U U (r:=((min ks.length vs.length:Nat):Int)) (by rw[hkl,hvl];split<;>omega) ?_
 refine Q.as U<|Q.nt<|UW.seq<|?_
 refine' UW.bG (by kernel_rfl) [0,1,0,7,0,16,0,112,63,319,1023,2047] [some 11,some 12,some 13,some 14,some 15,some 16,some 17,some 18,some 19,none,none,none] [some (11,_),some (12,_),some (13,_),some (14,_),some (15,_),some (16,_),some (17,_),some (18,_),some (19,_),none,none,none] [9,10,11] [1,5] U (by decide) (by decide) (M.free (by decide) U U ?q0 (M.held (by decide) U U ?q1 (M.free (by decide) U U ?q2 (M.free (by decide) U U ?q3 (M.free (by decide) U U ?q4 (M.held (by decide) U U ?q5 (M.free (by decide) U U ?q6 (M.free (by decide) U U ?q7 (M.free (by decide) U U ?q8 (M.skip (M.skip (M.skip M.nil)))))))))))) ?k
 case q0=>exact QF.fieldAddr rfl rfl rfl dw
 case q1=>exact QS.aJ rfl rfl dD rfl (k:=1) rfl rfl
 case q2=>exact QF.move rfl rfl rfl
 case q3=>exact QF.oH rfl rfl aY rfl (by exact jU _) (.hi rfl) (by omega) (by omega) rfl
 case q4=>exact QF.fieldAddr rfl rfl rfl bO
 case q5=>exact QS.aJ rfl rfl dF rfl (k:=1) rfl rfl
 case q6=>exact QF.move rfl rfl rfl
 case q7=>exact QF.oH rfl rfl bM rfl (by exact jq _) (.hi rfl) (by omega) (by omega) rfl
 case q8=>exact QF.fieldAddr rfl rfl rfl dw
 refine CH.df U U<|DS.fD U U dD U (k:=1) U U U (by rfl) (by rfl) U U λ_=>?_
 refine CH.cons U U (by decide)<|DS.qs (by exact QS.fieldAddr U U U bO)<|?_
 refine CH.df U U<|DS.fD U U dF U (k:=1) U U U (by rfl) (by rfl) U U λ_=>?_
 refine CH.nil<|?_
 simp only[app,bV]
 have e1:List.drop 0 (List.take (min ks.length vs.length) (aW vs))=aW (vs.take (min ks.length vs.length)):=by rw[List.drop_zero,NB]
 have e2:List.drop 0 (List.take (min ks.length vs.length) (ks.map encS))=(ks.take (min ks.length vs.length)).map encS:=by rw[List.drop_zero,List.map_take]
 rw[e1,e2]
 refine UQ.then<|Q.rg<|US.dI U (by decide) U U av U (k:=1) U (by rfl)<|?_
 refine US.lq U (by decide) U U U U (λ_=>jV (cutV (.mk k n t ks vs)) hf.cut _) ?_;rintro _ _ ⟨i,j,rfl,rfl⟩
 refine US.bU U U U av U (k:=2) U (by rfl) U U (by rfl) (by rfl) U<|?_
 refine Q.nt<|UW.ret<|?_
 simp only[List.set_cons_succ,List.set_cons_zero,List.cons_append,List.nil_append]
 refine bN [_,_] (λhd=>aU (k:=2) hd U U U fV fZ) (.cons_cons _ (.cons_cons _ (List.nil_sublist _))) λhd=>?_
 exact⟨_,hd,rfl,i,j,rfl,rfl⟩
def cutAt{α:Type}(l:List α)(i:Nat):List α:=l.take i++l.drop (i+1)
theorem kR{α:Type}{l:List α}{i:Nat}(h:i<l.length):(cutAt l i).length=l.length-1:=by unfold cutAt;simp;omega
theorem Dt{α:Type}(l:List α)(i:Nat)(z:α)(h:i<l.length)(m:Nat)(hm:m=l.length-1)(A:List α)(hA:A=cutAt l i++l.drop m)(q:Nat)(hq:q=l.length-m)(q2:Nat)(hq2:q2=m+q):
 A.take m++List.replicate q z++A.drop q2=cutAt l i++[z]:=by
 subst hA hm hq hq2
 have e2:l.length-(l.length-1)=1:=by omega
 have e3:=kR h
 rw[e2,List.take_append_of_le_length (by omega),List.take_of_length_le (by omega),List.drop_of_length_le (by rw[List.length_append,e3,List.length_drop];omega),List.append_nil]
 rfl
theorem Ij(rows:List (List AV))(len:Nat)(Tt:len=rows.length)(hr:∀cs∈rows,cs.length=1)(i:Nat)(hi:i<rows.length)(hb:rows.length<=1000000)(id:Nat)(H:Hp)(hH:H id=none):
 au Tryz.prog 194 [.own id 0 len 1,.v (.int .i64 (i:Int)),.v (.int .i64 ((i+1:Nat):Int))] (aC H [(id,.row 9 1 rows)])
  (λu H'=>u=.own id 0 (len-1) 1/\H'=aC H [(id,.row 9 1 (cutAt rows i++[[.v (.string ⟨#[]⟩)]]))]):=by
 subst Tt
 refine aF (n:=33) (H0:=H) (I:=[(id,.row 9 1 rows)]) Tryz.func194 (by kernel_rfl) U (by rw[Tryz.ntmps194];rfl) (.cons hH .nil)<|?_
 refine Q.rg<|Q.as U<|Q.nt<|Q.rg<|Q.mv U<|Q.mv U<|Q.mv U<|Q.mv U<|US.il U (by decide) U U aY U<|US.qs U (by decide) (QS.rU U U aY U U U U (by omega) (by omega) (by omega))<|Q.nt<|UW.seq<|Q.rg<|?_
 have hne:¬((i:Int)=(i:Int)+1):=by omega
 refine Q.mv U<|Q.mv U<|US.az U (by decide) U U U U (r:=.bool false) (by(simp[dZ,eH,hne];done))<|?_
 refine Q.nt<|UW.cond U (λh=>absurd h (by simp)) λ_=>?_
 refine UW.skip<|UQ.then<|Q.rg<|Q.mv U<|US.il U (by decide) U U aY U<|Q.as U<|Q.nt<|UW.seq<|?_
 refine' UW.bG (by kernel_rfl) [0,0,3,0,0,24,63,127] [some 20,some 21,some 22,some 23,some 24,some 25,none,none] [some (20,_),some (21,_),some (22,_),some (23,_),some (24,_),some (25,_),none,none] [6,7] [] U (by decide) (by decide) (M.free (by decide) U U ?q0 (M.free (by decide) U U ?q1 (M.free (by decide) U U ?q2 (M.free (by decide) U U ?q3 (M.free (by decide) U U ?q4 (M.free (by decide) U U ?q5 (M.skip (M.skip M.nil)))))))) ?k
 case q0=>exact QF.move rfl rfl rfl
 case q1=>exact QF.move rfl rfl rfl
 case q2=>exact QF.jS rfl rfl aY rfl (.hi rfl) (by omega) (by omega)
 case q3=>exact QF.move rfl rfl rfl
 case q4=>exact QF.move rfl rfl rfl
 case q5=>exact QF.jS rfl rfl aY rfl (.lo rfl) (by omega) (by omega)
 refine CH.cons U U (by decide)<|DS.vR U U dV U U (k:=0) U (.own (k:=0) U (by omega) U) (by rw[List.length_take,List.length_drop];omega) U U<|?_
 refine CH.cons U U (by decide)<|DS.qs (by exact QS.assign U U U)<|?_
 refine CH.nil<|?_
 simp only[app,bV]
 have e0:i-0+(List.take (rows.length-(i+1)) (List.drop (0+(i+1)) rows)).length=rows.length-1:=by rw[List.length_take,List.length_drop];omega
 have e1:List.take (i-0) rows++List.take (rows.length-(i+1)) (List.drop (0+(i+1)) rows)=cutAt rows i:=by
  rw[Nat.zero_add,List.take_of_length_le (l:=List.drop (i+1) rows) (by rw[List.length_drop];omega)];rfl
 have hcl:=kR hi
 have hlen:(cutAt rows i++List.drop (rows.length-1) rows).length=rows.length:=by rw[List.length_append,hcl,List.length_drop];omega
 rw[e0,e1]
 refine UQ.then<|Q.rg<|Q.mv U<|Q.mv U<|US.il U (by decide) U U aY U<|Q.mv U<|US.om U (by decide) U U aY U (k:=0) U U U (by omega) (by rw[hlen];omega)<|?_
 refine US.clear U U U dV U (k:=0) U (by rw[hlen];omega) z9 U (Dt rows i _ hi (rows.length-1) U _ U _ U _ U) U<|?_
 refine Q.nt<|Q.rg<|Q.mv U<|Q.as U<|Q.nt<|UW.ret<|?_
 exact bN [_] (λ_=>ak U U) (List.Sublist.refl _) λhd=>⟨rfl,rfl⟩
theorem Ik(rows:List (List AV))(len:Nat)(Tt:len=rows.length)(hr:∀cs∈rows,cs.length=5)(i:Nat)(hi:i<rows.length)(hb:rows.length<=1000000)(id:Nat)(H:Hp)(hH:H id=none):
 au Tryz.prog 195 [.own id 0 len 5,.v (.int .i64 (i:Int)),.v (.int .i64 ((i+1:Nat):Int))] (aC H [(id,.row 26 5 rows)])
  (λu H'=>u=.own id 0 (len-1) 5/\H'=aC H [(id,.row 26 5 (cutAt rows i++[[.v (.int .i64 0),.v (.int .i64 0),.v (.string ⟨#[]⟩),.v (.slice none 0 0),.v (.slice none 0 0)]]))]):=by
 subst Tt
 refine aF (n:=33) (H0:=H) (I:=[(id,.row 26 5 rows)]) Tryz.func195 (by kernel_rfl) U (by rw[Tryz.ntmps195];rfl) (.cons hH .nil)<|?_
 refine Q.rg<|Q.as U<|Q.nt<|Q.rg<|Q.mv U<|Q.mv U<|Q.mv U<|Q.mv U<|US.il U (by decide) U U bM U<|US.qs U (by decide) (QS.rU U U bM U U U U (by omega) (by omega) (by omega))<|Q.nt<|UW.seq<|Q.rg<|?_
 have hne:¬((i:Int)=(i:Int)+1):=by omega
 refine Q.mv U<|Q.mv U<|US.az U (by decide) U U U U (r:=.bool false) (by(simp[dZ,eH,hne];done))<|?_
 refine Q.nt<|UW.cond U (λh=>absurd h (by simp)) λ_=>?_
 refine UW.skip<|UQ.then<|Q.rg<|Q.mv U<|US.il U (by decide) U U bM U<|Q.as U<|Q.nt<|UW.seq<|?_
 refine' UW.bG (by kernel_rfl) [0,0,3,0,0,24,63,127] [some 20,some 21,some 22,some 23,some 24,some 25,none,none] [some (20,_),some (21,_),some (22,_),some (23,_),some (24,_),some (25,_),none,none] [6,7] [] U (by decide) (by decide) (M.free (by decide) U U ?q0 (M.free (by decide) U U ?q1 (M.free (by decide) U U ?q2 (M.free (by decide) U U ?q3 (M.free (by decide) U U ?q4 (M.free (by decide) U U ?q5 (M.skip (M.skip M.nil)))))))) ?k
 case q0=>exact QF.move rfl rfl rfl
 case q1=>exact QF.move rfl rfl rfl
 case q2=>exact QF.jS rfl rfl bM rfl (.hi rfl) (by omega) (by omega)
 case q3=>exact QF.move rfl rfl rfl
 case q4=>exact QF.move rfl rfl rfl
 case q5=>exact QF.jS rfl rfl bM rfl (.lo rfl) (by omega) (by omega)
 refine CH.cons U U (by decide)<|DS.vR U U iP U U (k:=0) U (.own (k:=0) U (by omega) U) (by rw[List.length_take,List.length_drop];omega) U U<|?_
 refine CH.cons U U (by decide)<|DS.qs (by exact QS.assign U U U)<|?_
 refine CH.nil<|?_
 simp only[app,bV]
 have e0:i-0+(List.take (rows.length-(i+1)) (List.drop (0+(i+1)) rows)).length=rows.length-1:=by rw[List.length_take,List.length_drop];omega
 have e1:List.take (i-0) rows++List.take (rows.length-(i+1)) (List.drop (0+(i+1)) rows)=cutAt rows i:=by
  rw[Nat.zero_add,List.take_of_length_le (l:=List.drop (i+1) rows) (by rw[List.length_drop];omega)];rfl
 have hcl:=kR hi
 have hlen:(cutAt rows i++List.drop (rows.length-1) rows).length=rows.length:=by rw[List.length_append,hcl,List.length_drop];omega
 rw[e0,e1]
 refine UQ.then<|Q.rg<|Q.mv U<|Q.mv U<|US.il U (by decide) U U bM U<|Q.mv U<|US.om U (by decide) U U bM U (k:=0) U U U (by omega) (by rw[hlen];omega)<|?_
 refine US.clear U U U iP U (k:=0) U (by rw[hlen];omega) z26 U (Dt rows i _ hi (rows.length-1) U _ U _ U _ U) U<|?_
 refine Q.nt<|Q.rg<|Q.mv U<|Q.as U<|Q.nt<|UW.ret<|?_
 exact bN [_] (λ_=>ak U U) (List.Sublist.refl _) λhd=>⟨rfl,rfl⟩
def zeroV:V:=.mk 0 0 ⟨#[]⟩ [] []
def aI(x:V)(key:ByteArray):V×Bool:=match pl x key with
 |some i=>(x.vs.getD i zeroV,true)
 |none=>(zeroV,false)
theorem getD_at{α:Type}{l:List α}{i:Nat}{z:α}(h:i<l.length):l.getD i z=l[i]:=by simp[List.getD,h]
theorem eY{α:Type}{l:List α}{i:Nat}{z:α}(h:i<l.length):l.getD i z∈l:=by rw[getD_at h];exact List.getElem_mem h
theorem K8(l:List V)(i:Nat)(h:i<l.length):(aW l)[((i:Nat):Int).toNat]? =some (aD (l.getD i zeroV)):=by
 rw[Int.toNat_natCast,fK l i h,getD_at h]
theorem qR(x:V)(hx:Fits x)(s:ByteArray)(H:Hp):
 au Tryz.prog 63 [.agg (aD x),.v (.string s)] H (bz H (.kM [.agg (aD (aI x s).1),.v (.bool (aI x s).2)])):=by
 obtain⟨k,n,t,ks,vs⟩:=x
 refine aF (n:=19) (H0:=H) (I:=[]) Tryz.func63 (by kernel_rfl) U (by rw[Tryz.ntmps63];rfl) .nil<|?_
 refine Q.rg<|US.box U (by decide) U U U U (by rfl) λp2=>?_
 refine US.nz U (by decide) U U z26 U U U U λp4=>Q.as U<|Q.nt<|Q.rg<|US.dI U (by decide) U U av U (k:=1) U (by rfl)<|?_
 refine Q.mv U<|US.dz U (by decide) U U U U (λ_=>oW _ s hx _)<|Q.as U<|Q.nt<|UW.seq<|Q.rg<|?_
 cases hp:pl (.mk k n t ks vs) s with
 |none=>
  have hg:aI (.mk k n t ks vs) s=(zeroV,false):=by unfold aI;rw[hp]
  rw[hg]
  refine Q.mv U<|Q.bi U U U<|Q.nt<|?_
  refine UW.cond U (λ_=>?_) (λh=>absurd h (by simp[oi]))
  refine Q.rg<|US.Ah [] U (by decide) U U iE U U U U U U U U<|US.bU U U U av U (k:=0) U (by rfl) U U (by rfl) (by rfl) U<|?_
  refine Q.as U<|Q.nt<|UW.ret<|UQ.ax<|?_
  exact bN [] (λhd=>fJ U (jv (k:=0) hd U U fV fZ) (bE U)) (by simp) λhd=>⟨rfl,rfl⟩
 |some i=>
  obtain⟨hlt,_,_⟩:=Dr hp
  simp only[V.vs] at hlt
  have hg:aI (.mk k n t ks vs) s=(vs.getD i zeroV,true):=by unfold aI;rw[hp];rfl
  rw[hg]
  refine Q.mv U<|Q.bi U U U<|Q.nt<|UW.cond U (λh=>absurd (of_decide_eq_true h) (by simp only[oi];omega)) λ_=>?_
  refine UW.skip<|UQ.then<|Q.rg<|US.fieldAddr U (by decide) U U U bO<|Q.lc 1 dF U U U<|Q.mv U<|US.bI U (by decide) U U bM U U (by simp[oi]) (K8 _ i hlt) (Y _)<|?_
  refine US.fB U (by decide) U U U av (by exact Y _)<|?_
  refine US.dz U (by decide) U U U U (λ_=>iW (jV _ (hx.vs _ (eY hlt)) _))<|US.bU U U U av U (k:=0) U (by rfl) U U (by exact aA _) (by exact Y _) U<|?_
  refine Q.as U<|Q.nt<|UW.ret<|?_
  exact bN [] (λhd=>fJ U (jv (k:=0) hd U U fV (by rw[Y];exact fZ)) (bE U)) (by simp) λhd=>⟨rfl,rfl⟩
def bC(x:V)(key:ByteArray):V:=match pl x key with
 |some i=> .mk x.k x.n x.t (cutAt (cutV x).ks i) (cutAt (cutV x).vs i)
 |none=>x
def K9(H:Hp)(x:V)(u:AV)(H':Hp):Prop:=∃news,aM H news/\H'=aC H news/\∃i j rk rv,u=.agg [.v (.int .i64 x.k),.v (.int .i64 x.n),.v (.string x.t),.own i 0 x.ks.length 1,.own j 0 x.vs.length 5]/\news=[(j,.row 26 5 rv),(i,.row 9 1 rk)]/\
 x.ks.length<=rk.length/\rk.take x.ks.length=x.ks.map encS/\x.vs.length<=rv.length/\rv.take x.vs.length=aW x.vs
theorem Tu{H:Hp}{news:List (Nat×Ob)}(hd:aM H news){k i len:Nat}{rows rs:List (List AV)}{e sz:Nat}(h:news[k]? =some (i,.row e sz rows))(hl:len<=rows.length)(hr:rows.take len=rs):bL (aC H news) (.own i 0 len sz) H (.sl rs):=by
 have h1:=bL.own (off:=0) (len:=len) (rows':=rows) (ku hd) (hd.at_ h) (hd.base h) (by omega) U (λi cs cs' h1 h2=>by
  rw[h1] at h2;cases h2
  exact⟨rfl,λj u u' h3 h4=>by rw[h3] at h4;cases h4;exact bL.drop (ku hd) u⟩)
 rw[<-hr]
 simpa using h1
theorem vU{P:Program}{f:Nat}{us:List AV}{H:Hp}{x:V}(h:au P f us H (K9 H x)):au P f us H (bz H (.agg (aD x))):=by
 refine h.post<|?_
 rintro u H1 ⟨news,hd,rfl,i,j,rk,rv,rfl,rfl,h1,h2,h3,h4⟩
 refine⟨.agg (aD x),H,ku hd,?_,rfl,rfl⟩
 obtain⟨k,n,t,ks,vs⟩:=x
 simp only[aD,V.k,V.n,V.t,V.ks,V.vs] at hd h1 h2 h3 h4⊢
 exact Dq (ku hd) (Tu hd (k:=1) U h1 h2) (Tu hd (k:=0) U h3 h4)
theorem vV{α β:Type}(f:α->β)(l:List α)(i:Nat):(cutAt l i).map f=cutAt (l.map f) i:=by unfold cutAt;rw[List.map_append,List.map_take,List.map_drop]
theorem yV(x:V)(hx:Fits x)(s:ByteArray)(H:Hp):
 au Tryz.prog 148 [.agg (aD x),.v (.string s)] H (bz H (.agg (aD (bC x s)))):=by
 obtain⟨k,n,t,ks,vs⟩:=x
 cases hp:pl (.mk k n t ks vs) s with
 |none=>
  have hg:bC (.mk k n t ks vs) s=.mk k n t ks vs:=by unfold bC;rw[hp]
  rw[hg]
  refine aF (n:=30) (H0:=H) (I:=[]) Tryz.func148 (by kernel_rfl) U (by rw[Tryz.ntmps148];rfl) .nil<|?_
  refine Q.rg<|US.box U (by decide) U U U U (by rfl) λp2=>?_
  refine US.nz U (by decide) U U z26 U U U U λp4=>Q.nt<|Q.rg<|US.dI U (by decide) U U av U (k:=1) U (by rfl)<|?_
  refine Q.mv U<|US.dz U (by decide) U U U U (λ_=>oW _ s hx _)<|Q.as U<|Q.nt<|UW.seq<|Q.rg<|Q.mv U<|Q.bi U U U<|Q.nt<|?_
  rw[hp]
  refine UW.cond U (λ_=>?_) (λh=>absurd h (by simp[oi]))
  refine Q.rg<|US.dI U (by decide) U U av U (k:=1) U (by rfl)<|?_
  refine US.dz U (by decide) U U U U (λ_=>iW (jV _ hx _))<|US.bU U U U av U (k:=0) U (by rfl) U U (by rfl) (by rfl) U<|?_
  refine Q.nt<|UW.ret<|UQ.ax<|?_
  exact bN [] (λhd=>aU (k:=0) hd U U U fV fZ) (by simp) λhd=>⟨rfl,rfl⟩
 |some i=>
  obtain⟨hlt,hlk,_⟩:=Dr hp
  simp only[V.vs] at hlt
  simp only[V.ks] at hlk
  have hg:bC (.mk k n t ks vs) s=.mk k n t (cutAt (cutV (.mk k n t ks vs)).ks i) (cutAt (cutV (.mk k n t ks vs)).vs i):=by unfold bC;rw[hp];rfl
  rw[hg]
  have hcf:Fits (cutV (.mk k n t ks vs)):=hx.cut
  have hck:i<(cutV (.mk k n t ks vs)).ks.length:=by simp only[cutV,V.ks,V.vs,List.length_take];omega
  have hcv:i<(cutV (.mk k n t ks vs)).vs.length:=by simp only[cutV,V.ks,V.vs,List.length_take];omega
  have hbv:=hcf.Vl
  refine vU<|aF (n:=30) (H0:=H) (I:=[]) Tryz.func148 (by kernel_rfl) U (by rw[Tryz.ntmps148];rfl) .nil<|?_
  refine Q.rg<|US.box U (by decide) U U U U (by rfl) λp2=>?_
  refine US.nz U (by decide) U U z26 U U U U λp4=>Q.nt<|Q.rg<|US.dI U (by decide) U U av U (k:=1) U (by rfl)<|?_
  refine Q.mv U<|US.dz U (by decide) U U U U (λ_=>oW _ s hx _)<|Q.as U<|Q.nt<|UW.seq<|Q.rg<|Q.mv U<|Q.bi U U U<|Q.nt<|?_
  rw[hp]
  simp only[oi]
  refine UW.cond U (λh=>absurd (of_decide_eq_true h) (by omega)) λ_=>UW.skip<|UQ.then<|Q.rg<|US.dI U (by decide) U U av U (k:=1) U (by rfl)<|?_
  refine US.lq U (by decide) U U U U (λ_=>uO _ hx _) ?_;rintro _ _ ⟨pi,pj,rfl,rfl⟩
  refine US.bU U U U av U (k:=3) U (by rfl) U U (by rfl) (by rfl) U<|?_
  refine Q.nt<|Q.rg<|US.fieldAddr U (by decide) U U U dw<|Q.lc 3 dD U U U<|Q.mv U<|Q.mv U<|US.add U (by decide) U U U U (r:=((i+1:Nat):Int)) (IntWalk.i64_in _ (by omega))<|US.KW 1 U (by decide) U U U U U (λG hG=>Ij _ _ (List.length_map ..).symm (jU _) i (by rw[List.length_map];exact hck) (by rw[List.length_map];exact hcf.VE) pi G hG) U<|?_
  refine US.fieldAddr U (by decide) U U U dw<|US.fD U U U dD U (k:=3) U U U (by rfl) (by rfl) U U<|?_
  refine Q.nt<|Q.rg<|US.fieldAddr U (by decide) U U U bO<|Q.lc 3 dF U U U<|Q.mv U<|Q.mv U<|US.add U (by decide) U U U U (r:=((i+1:Nat):Int)) (IntWalk.i64_in _ (by omega))<|US.KW 0 U (by decide) U U U U U (λG hG=>Ik _ _ (aP _).symm (jq _) i (by rw[aP];exact hcv) (by rw[aP];exact hcf.Vl) pj G hG) U<|?_
  refine US.fieldAddr U (by decide) U U U bO<|US.fD U U U dF U (k:=3) U U U (by rfl) (by rfl) U U<|?_
  refine Q.nt<|Q.rg<|US.dI U (by decide) U U av U (k:=3) U (by rfl)<|?_
  refine US.bU U U U av U (k:=2) U (by rfl) U U (by rfl) (by rfl) U<|?_
  refine Q.nt<|UW.ret<|?_
  simp only[List.set_cons_succ,List.set_cons_zero,List.cons_append,List.nil_append]
  refine bN [_,_] (λhd=>aU (k:=2) hd U U U fV fZ) (.cons_cons _ (.cons_cons _ (List.nil_sublist _))) λhd=>?_
  have e1:=kR hck
  have e2:=kR hcv
  have e3:(cutAt ((cutV (.mk k n t ks vs)).ks.map encS) i).length=(cutV (.mk k n t ks vs)).ks.length-1:=by rw[<-vV,List.length_map,e1]
  have e4:(cutAt (aW (cutV (.mk k n t ks vs)).vs) i).length=(cutV (.mk k n t ks vs)).vs.length-1:=by rw[eB,<-vV,List.length_map,e2]
  refine⟨_,hd,rfl,pi,pj,_,_,?_,rfl,?_,?_,?_,?_⟩
  ·show _=AV.agg [_,_,_,.own pi 0 (cutAt (cutV (.mk k n t ks vs)).ks i).length 1,.own pj 0 (cutAt (cutV (.mk k n t ks vs)).vs i).length 5]
   rw[e1,e2];rfl
  ·show(cutAt (cutV (.mk k n t ks vs)).ks i).length<=_
   rw[List.length_append,e3,e1];omega
  ·show List.take (cutAt (cutV (.mk k n t ks vs)).ks i).length _=(cutAt (cutV (.mk k n t ks vs)).ks i).map encS
   rw[e1,<-e3,List.take_left,vV]
  ·show(cutAt (cutV (.mk k n t ks vs)).vs i).length<=_
   rw[List.length_append,e4,e2];omega
  ·show List.take (cutAt (cutV (.mk k n t ks vs)).vs i).length _=aW (cutAt (cutV (.mk k n t ks vs)).vs i)
   rw[e2,<-e4,List.take_left,eB,eB,vV]
end Go.Proofs.YtonpfomjoiaacaaGreatDoor
end
