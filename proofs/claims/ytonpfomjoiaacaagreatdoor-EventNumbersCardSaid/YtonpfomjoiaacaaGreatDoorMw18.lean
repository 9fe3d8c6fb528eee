/- A part of the proof. -/
import Derived.Test.YtonpfomjoiaacaaGreatDoorMw17
import Derived.Test.YtonpfomjoiaacaaGreatDoorMw07
import Derived.ProofKit
import Derived.OpenShut
import Derived.ChangeSame
import Derived.ChangeSlices
set_option maxRecDepth 100000
set_option maxHeartbeats 4000000
set_option linter.unusedSectionVars false
set_option linter.unusedVariables false
set_option linter.unusedSimpArgs false
section
namespace Go.Proofs.YtonpfomjoiaacaaGreatDoor
open Go Go.iG Go.RowKit
theorem pl_at{k n:Int}{t:ByteArray}{ks:List ByteArray}{vs:List V}{key:ByteArray}(hk:k=5){j:Nat}(hj:j<ks.length)(h:ks[j].toList=key.toList)(hb:∀i (h:i<ks.length),i<j->¬ks[i].toList=key.toList):pl (.mk k n t ks vs) key=if j<vs.length then some j else none:=by
 unfold pl
 simp only[V.k,V.ks,V.vs,hk,if_true]
 rw[Cg hj (by simp[h]) (λi h1 h2=>by simpa using λh3=>hb i h1 h2 h3.symm)]
 rfl
theorem X0{k n:Int}{t:ByteArray}{ks:List ByteArray}{vs:List V}{key:ByteArray}(hb:∀i (h:i<ks.length),¬ks[i].toList=key.toList):pl (.mk k n t ks vs) key=none:=by
 unfold pl
 split
 ·simp only[V.ks]
  rw[Dj (λi h1=>by simpa using λh3=>hb i h1 h3.symm)]
 ·rfl
theorem X3{k n:Int}{t:ByteArray}{ks:List ByteArray}{vs:List V}{key:ByteArray}(hk:¬k=5):pl (.mk k n t ks vs) key=none:=by
 unfold pl
 rw[if_neg (by simpa[V.k] using hk)]
theorem Dr(x:V)(key:ByteArray)(hx:Fits x)(H:Hp):au Tryz.prog 68 [.agg (aC x),.v (.string key)] H (bB H (.v (.int .i64 (oi (pl x key))))):=by
 have Vv:=hx.XG
 obtain⟨k,n,t,ks,vs⟩:=x
 simp only[V.ks] at Vv
 have yE:(ks.map encS).length=ks.length:=List.length_map ..
 have hvl:=aS vs
 refine aF (n:=29) (H0:=H) (I:=[]) Tryz.func68 (by kernel_rfl) U (by rw[Tryz.ntmps68];rfl) .nil<|?_
 refine Q.rg<|S.dd<|D.box U U U λp2=>Q.as U<|Q.nt<|S.sq<|Q.rg<|Q.fa bT U<|Q.lc 0 fB U U U<|Q.bi U U U<|Q.nt<|?_
 refine S.cO U (λhc8=>?_) (λhc8=>?_)
 refine Q.rg<|Q.as U<|Q.nt<|UW.ret<|UQ.ax<|S.bH (λ_=>ak U U)<|?_
 focus (rw[X3 (by assumption)];rfl;done)
 refine UW.skip<|UQ.then<|S.sq<|Q.rg<|Q.as U<|Q.nt<|UW.block<|S.loop (λj:Nat=>[(5,.v (.int .i64 (j:Int))),(1,.v (.string key)),(2,.ptr p2 0)]) (λ_=>[(p2,.box 26 (aC (.mk k n t ks vs)))]) (λj=>j<=ks.length/\∀i (h:i<ks.length),i<j->¬ks[i].toList=key.toList) (λj=>ks.length-j) 0 ⟨Nat.zero_le _,λi _ h=>absurd h (by omega)⟩ ⟨rfl,rfl,rfl,trivial⟩ (.refl _)<|?_
 rintro j ⟨hj,hjj⟩
 by_cases hlt:j<ks.length
 ·have hgl:=eY ks j hlt
  refine S.sq<|Q.rg<|Q.mv U<|Q.fa dJ U<|Q.lc 0 dB U U U<|S.qu (Z.fM aZ U)<|Q.bi U U U<|Q.nt<|S.cT U (decide_eq_true (by omega))<|UW.skip<|UQ.then<|S.sq<|UW.block<|Q.rg<|Q.fa dJ U<|Q.lc 0 dB U U U<|Q.mv U<|S.qu (Z.ia aZ U U (by omega) (by assumption) (by rfl))<|?_
  refine S.qu (Z.fO dW U)<|Q.mv U<|S.qu (Z.bs U U U)<|Q.nt<|?_
  refine S.cE U (λhc22=>?_) (λhc22=>?_)
  refine S.sq<|Q.rg<|Q.mv U<|Q.fa bU U<|Q.lc 0 dR U U U<|S.qu (Z.fM bP U)<|Q.bi U U U<|Q.nt<|?_
  refine S.cD U (λhc27=>?_) (λhc27=>?_)
  refine Q.rg<|Q.as U<|Q.nt<|UW.ret<|UQ.ax<|UQ.aI<|UQ.ax<|UQ.ax<|UQ.aI<|UQ.ax<|S.bH (λ_=>ak U U)<|?_
  focus (rw[pl_at (by omega) hlt hc22 hjj,if_neg (by omega)];rfl;done)
  refine UW.skip<|UQ.then<|Q.rg<|Q.mv U<|Q.as U<|Q.nt<|UW.ret<|UQ.aI<|UQ.ax<|UQ.ax<|UQ.aI<|UQ.ax<|S.bH (λ_=>ak U U)<|?_
  focus (rw[pl_at (by omega) hlt hc22 hjj,if_pos (by omega)];rfl;done)
  refine UW.skip<|UQ.aB<|UQ.then<|S.rg<|Q.mv U<|S.qu (Z.add (r:=((j+1:Nat):Int)) U U (IntWalk.i64_in _ (by omega)))<|Q.as U<|US.nil<|?_
  refine S.back _ ⟨rfl,rfl,rfl,trivial⟩ (.refl _) ?_ (by omega)
  refine⟨by omega,λi h3 h4=>?_⟩
  by_cases hij:i=j
  ·subst hij;exact hc22
  ·exact hjj i h3 (by omega)
 ·refine S.sq<|Q.rg<|Q.mv U<|Q.fa dJ U<|Q.lc 0 dB U U U<|S.qu (Z.fM aZ U)<|Q.bi U U U<|Q.nt<|S.cF U (decide_eq_false (by omega))<|UW.exit<|UQ.pass<|UQ.pass<|UQ.here<|UQ.then<|Q.rg<|Q.as U<|Q.nt<|UW.ret<|S.bH (λ_=>ak U U)<|?_
  focus (rw[X0 λi h=>hjj i h (by omega)];rfl;done)
theorem Cn{x:V}{key:ByteArray}(hx:Fits x){i:Nat}(hp:pl x key=some i)(H:Hp):au Tryz.prog 68 [.agg (aC x),.v (.string key)] H (bB H (.v (.int .i64 (i:Int)))):=by
 have:=Dr x key hx H;rw[hp] at this;exact this
theorem Co{x:V}{key:ByteArray}(hx:Fits x)(hp:pl x key=none)(H:Hp):au Tryz.prog 68 [.agg (aC x),.v (.string key)] H (bB H (.v (.int .i64 (-1)))):=by
 have:=Dr x key hx H;rw[hp] at this;exact this
theorem I4(x:V)(hx:Fits x)(s:ByteArray)(H:Hp):
 au Tryz.prog 27 [.agg (aC x),.v (.string s)] H (bB H (.kX [.agg (aC (aH x s).1),.v (.bool (aH x s).2)])):=by
 cases hp:pl x s with
 |none=>
  have hg:aH x s=(zeroV,false):=by unfold aH;rw[hp]
  rw[hg]
  obtain⟨k,n,t,ks,vs⟩:=x
  refine aF (n:=18) (H0:=H) (I:=[]) Tryz.func27 (by kernel_rfl) U (by rw[Tryz.ntmps27];rfl) .nil<|?_
  refine Q.rg<|S.dd<|D.box U U U λp2=>S.dd<|D.al z26 U U U λp4=>Q.as U<|Q.nt<|Q.rg<|S.qu (Z.bW 1 av U U U)<|Q.mv U<|S.qu (Z.call U U (λ_=>Co hx hp _))<|Q.as U<|Q.nt<|S.sq<|Q.rg<|Q.mv U<|Q.bi U U U<|Q.nt<|S.cT U (decide_eq_true (by omega))<|Q.rg<|S.qu (Z.bd [] gU U U U U U U)<|S.s<|D.st 0 av U U U U U U U U λ_=>Q.as U<|Q.nt<|UW.ret<|UQ.ax<|S.bH (λhd=>gF U (jX (k:=0) hd U U gQ gT) (bJ U))<|?_
  rfl
 |some i=>
  have hg:aH x s=(x.vs.getD i zeroV,true):=by unfold aH;rw[hp]
  have hlt:=(Fg hp).1
  rw[hg]
  obtain⟨k,n,t,ks,vs⟩:=x
  simp only[V.vs] at hlt⊢
  have hgl:=M7 vs i hlt
  refine aF (n:=18) (H0:=H) (I:=[]) Tryz.func27 (by kernel_rfl) U (by rw[Tryz.ntmps27];rfl) .nil<|?_
  refine Q.rg<|S.dd<|D.box U U U λp2=>S.dd<|D.al z26 U U U λp4=>Q.as U<|Q.nt<|Q.rg<|S.qu (Z.bW 1 av U U U)<|Q.mv U<|S.qu (Z.call U U (λ_=>Cn hx hp _))<|Q.as U<|Q.nt<|S.sq<|Q.rg<|Q.mv U<|Q.bi U U U<|Q.nt<|S.cF U (decide_eq_false (by omega))<|UW.skip<|UQ.then<|Q.rg<|Q.fa bU U<|Q.lc 1 dR U U U<|Q.mv U<|S.qu (Z.ia bP U U (by omega) (by assumption) (by exact Y _))<|?_
  refine S.qu (Z.IG av U (Y _))<|S.s<|D.vW 0 av U U U U (by exact az _) (Y _) U U λ_=>?_
  refine Q.as U<|Q.nt<|UW.ret<|S.bH (λhd=>gF U (jX (k:=0) hd U U gQ (by rw[Y];exact gT)) (bJ U))<|?_
  rfl
def PU(x:V)(at_ out:Nat)(keys:List ByteArray)(vals:List V):V:=
 .mk 5 x.n x.t (x.ks.take at_++keys++(x.ks.take (min x.ks.length x.vs.length)).drop (at_+out)) (x.vs.take at_++vals++(x.vs.take (min x.ks.length x.vs.length)).drop (at_+out))
theorem three{α:Type}(A B C:List α):(((A.take A.length++B).take (A.length+B.length))++C).take (A.length+B.length+C.length)=A++B++C:=by
 rw[List.take_length,<-List.length_append,List.take_length,<-List.length_append,List.take_length]
theorem Tq(x:V)(hx:Fits x)(at_ out:Nat)(keys:List ByteArray)(vals:List V)(hat:at_+out<=min x.ks.length x.vs.length)(hk1:keys.length<=1000000)(hv1:vals.length<=1000000)(H:Hp):
 au Tryz.prog 69 [.agg (aC x),.v (.int .i64 (at_:Int)),.v (.int .i64 (out:Int)),strs keys,.sl (bu vals)] H (M8 H (PU x at_ out keys vals)):=by
 have Vv:=hx.XG
 have hvl0:=hx.Xn
 obtain⟨k,n,t,ks,vs⟩:=x
 simp only[V.ks,V.vs] at Vv hvl0 hat
 have yE:(ks.map encS).length=ks.length:=List.length_map ..
 have hvl:=aS vs
 have hml2:(keys.map encS).length=keys.length:=List.length_map ..
 have hvl2:=aS vals
 refine aF (n:=64) (H0:=H) (I:=[]) Tryz.func69 (by kernel_rfl) U (by rw[Tryz.ntmps69];rfl) .nil<|?_
 refine Q.rg<|S.dd<|D.box U U U λp5=>S.dd<|D.al z26 U U U λTt=>Q.nt<|Q.rg<|Q.fa dJ U<|Q.lc 1 dB U U U<|S.qu (Z.fM aZ U)<|Q.fa bU U<|Q.lc 1 dR U U U<|S.qu (Z.fM bP U)<|?_
 refine S.qu (Z.eq (u':=.v (.int .i64 ((min ks.length vs.length:Nat):Int))) (Z.min U U) (by rw[yE,hvl];congr 2;split<;>omega)) ?_
 refine Q.as U<|Q.nt<|Q.rg<|Q.as U<|Q.nt<|Q.rg<|Q.as U<|Q.nt<|Q.rg<|Q.mv U<|Q.fa dJ U<|Q.lc 1 dB U U U<|Q.mv U<|S.qu (Z.Xl aZ U (j5 _) (.hi U) (by omega) (by omega) U)<|S.dd<|D.apn dQ U U (.sl (JV (j5 _))) (by(simp only[List.length_append,List.length_drop,List.length_take];omega)) λp26=>?_
 refine Q.as U<|Q.nt<|Q.rg<|Q.mv U<|Q.mv U<|S.dd<|D.ap 0 dQ U U (by omega) U (.sl (j5 _)) (by(simp only[List.length_append,List.length_drop,List.length_take];omega)) U λp29=>?_
 refine Q.as U<|Q.nt<|Q.rg<|Q.mv U<|Q.fa dJ U<|Q.lc 2 dB U U U<|Q.mv U<|Q.mv U<|S.qu (Z.add (r:=((at_+out:Nat):Int)) U U (IntWalk.i64_in _ (by omega)))<|Q.mv U<|S.qu (Z.Xl aZ U (j5 _) (.both U U) (by omega) (by omega) U)<|S.dd<|D.ap 0 dQ U U (by(simp only[List.length_append,List.length_drop,List.length_take];omega)) U (.sl (JV (j5 _))) (by(simp only[List.length_append,List.length_drop,List.length_take];omega)) U λp38=>?_
 refine Q.as U<|Q.nt<|Q.rg<|Q.mv U<|Q.fa bU U<|Q.lc 2 dR U U U<|Q.mv U<|S.qu (Z.Xl bP U (jR _) (.hi U) (by omega) (by omega) U)<|S.dd<|D.apn jw U U (.sl (JV (jR _))) (by(simp only[List.length_append,List.length_drop,List.length_take];omega)) λp44=>?_
 refine Q.as U<|Q.nt<|Q.rg<|Q.mv U<|Q.mv U<|S.dd<|D.ap 0 jw U U (by omega) U (.sl (jR _)) (by(simp only[List.length_append,List.length_drop,List.length_take];omega)) U λp47=>?_
 refine Q.as U<|Q.nt<|Q.rg<|Q.mv U<|Q.fa bU U<|Q.lc 3 dR U U U<|Q.mv U<|Q.mv U<|S.qu (Z.add (r:=((at_+out:Nat):Int)) U U (IntWalk.i64_in _ (by omega)))<|Q.mv U<|S.qu (Z.Xl bP U (jR _) (.both U U) (by omega) (by omega) U)<|S.dd<|D.ap 0 jw U U (by(simp only[List.length_append,List.length_drop,List.length_take];omega)) U (.sl (JV (jR _))) (by(simp only[List.length_append,List.length_drop,List.length_take];omega)) U λp56=>?_
 refine Q.as U<|Q.nt<|Q.rg<|Q.fa jf U<|Q.lc 3 lg U U U<|Q.fa kY U<|Q.lc 3 dW U U U<|Q.mv U<|Q.mv U<|S.qu (Z.bd [0,1,2,3,4] gU U U U U U U)<|S.s<|D.st 2 av U U U U U U U U λ_=>Q.nt<|UW.ret<|?_
 have ek:(PU (.mk k n t ks vs) at_ out keys vals).ks.map encS=List.drop 0 (List.take at_ (ks.map encS))++keys.map encS++List.drop (at_+out) (List.take (min ks.length vs.length) (ks.map encS)):=by
  simp[PU,zl,Af,List.map_take,List.map_drop]
 have ev:bu (PU (.mk k n t ks vs) at_ out keys vals).vs=List.drop 0 (List.take at_ (bu vs))++bu vals++List.drop (at_+out) (List.take (min ks.length vs.length) (bu vs)):=by
  simp[PU,zl,Af,eX,List.map_take,List.map_drop]
 have elk:(PU (.mk k n t ks vs) at_ out keys vals).ks.length=(List.drop 0 (List.take at_ (ks.map encS))).length+(keys.map encS).length+(List.drop (at_+out) (List.take (min ks.length vs.length) (ks.map encS))).length:=by
  rw[<-List.length_map (f:=encS),ek,List.length_append,List.length_append]
 have elv:(PU (.mk k n t ks vs) at_ out keys vals).vs.length=(List.drop 0 (List.take at_ (bu vs))).length+(bu vals).length+(List.drop (at_+out) (List.take (min ks.length vs.length) (bu vs))).length:=by
  rw[<-aS,ev,List.length_append,List.length_append]
 refine bR [_,_] (λhd=>aX (k:=2) hd U U U gQ gT) (.cons_cons _ (.cons_cons _ (List.nil_sublist _))) λhd=>⟨_,hd,rfl,_,_,_,_,?_,rfl,?_,?_,?_,?_⟩
 ·rw[elk,elv];rfl
 ·rw[elk];simp only[List.length_append,List.length_take];omega
 ·rw[elk,ek];exact three _ _ _
 ·rw[elv];simp only[List.length_append,List.length_take];omega
 ·rw[elv,ev];exact three _ _ _
theorem A7(x:V)(hx:Fits x)(at_ out:Nat)(keys:List ByteArray)(vals:List V)(hat:at_+out<=min x.ks.length x.vs.length)(hk1:keys.length<=1000000)(hv1:vals.length<=1000000)(H:Hp):
 au Tryz.prog 69 [.agg (aC x),.v (.int .i64 (at_:Int)),.v (.int .i64 (out:Int)),strs keys,.sl (bu vals)] H (bB H (.agg (aC (PU x at_ out keys vals)))):=xW (Tq x hx at_ out keys vals hat hk1 hv1 H)
theorem Tu(x:V)(hx:Fits x)(at_ out:Nat)(hat:at_+out<=min x.ks.length x.vs.length)(H:Hp):
 au Tryz.prog 69 [.agg (aC x),.v (.int .i64 (at_:Int)),.v (.int .i64 (out:Int)),.v (.slice none 0 0),.v (.slice none 0 0)] H (bB H (.agg (aC (PU x at_ out [] [])))):=by
 refine au.args (ni:=[.agg (aC x),.v (.int .i64 (at_:Int)),.v (.int .i64 (out:Int)),strs [],.sl (bu [])]) (λ_ _ h=>h) U (λj u u' h1 h2=>?_) (A7 x hx at_ out [] [] hat (by decide) (by decide) H)
 match j with
 |0=>cases h1;cases h2;exact bO.drop (λ_ _ h=>h) _
 |1=>cases h1;cases h2;exact bO.drop (λ_ _ h=>h) _
 |2=>cases h1;cases h2;exact bO.drop (λ_ _ h=>h) _
 |3=>cases h1;cases h2;exact bO.nil _
 |4=>cases h1;cases h2;exact bO.nil _
 |j+5=>simp at h1
theorem X4(x:V):cutV x=.mk x.k x.n x.t (x.ks.take (min x.ks.length x.vs.length)) (x.vs.take (min x.ks.length x.vs.length)):=rfl
theorem KZ{x:V}{key:ByteArray}{i:Nat}(h:pl x key=some i):i+1<=min x.ks.length x.vs.length:=by have:=Fg h;omega
theorem FH{α:Type}(l:List α)(m i:Nat)(h:i<=m):cutAt (l.take m) i=l.take i++(l.take m).drop (i+1):=by
 unfold cutAt
 rw[List.take_take,Nat.min_eq_left h]
theorem PV{x:V}{key:ByteArray}{i:Nat}(h:pl x key=some i):PU x i 1 [] []=bq x key:=by
 have h1:=KZ h
 have h2:=(Fg h).2.2
 unfold bq PU
 rw[h]
 simp only[cutV,zl,Af,List.append_nil]
 rw[FH _ _ _ (by omega),FH _ _ _ (by omega),h2]
theorem nX(x:V)(hx:Fits x)(key:ByteArray)(H:Hp):au Tryz.prog 16 [.agg (aC x),.v (.string key)] H (bB H (.agg (aC (bq x key)))):=by
 cases hp:pl x key with
 |none=>
  have hg:bq x key=x:=by unfold bq;rw[hp]
  rw[hg]
  obtain⟨k,n,t,ks,vs⟩:=x
  refine aF (n:=15) (H0:=H) (I:=[]) Tryz.func16 (by kernel_rfl) U (by rw[Tryz.ntmps16];rfl) .nil<|?_
  refine Q.rg<|S.dd<|D.box U U U λp2=>S.dd<|D.al z26 U U U λp4=>Q.nt<|Q.rg<|S.qu (Z.bW 1 av U U U)<|Q.mv U<|S.qu (Z.call U U (λ_=>Co hx hp _))<|Q.as U<|Q.nt<|S.sq<|Q.rg<|Q.mv U<|Q.bi U U U<|Q.nt<|S.cT U (decide_eq_true (by omega))<|Q.rg<|S.qu (Z.bW 1 av U U U)<|S.s<|D.st 0 av U U U U U U U U λ_=>Q.nt<|UW.ret<|UQ.ax<|S.bH (λhd=>aX (k:=0) hd U U U gQ gT)<|?_
  rfl
 |some i=>
  rw[<-PV hp]
  obtain⟨k,n,t,ks,vs⟩:=x
  refine aF (n:=15) (H0:=H) (I:=[]) Tryz.func16 (by kernel_rfl) U (by rw[Tryz.ntmps16];rfl) .nil<|?_
  refine Q.rg<|S.dd<|D.box U U U λp2=>S.dd<|D.al z26 U U U λp4=>Q.nt<|Q.rg<|S.qu (Z.bW 1 av U U U)<|Q.mv U<|S.qu (Z.call U U (λ_=>Cn hx hp _))<|Q.as U<|Q.nt<|S.sq<|Q.rg<|Q.mv U<|Q.bi U U U<|Q.nt<|S.cF U (decide_eq_false (by omega))<|UW.skip<|UQ.then<|Q.rg<|S.qu (Z.bW 1 av U U U)<|Q.mv U<|S.qu (Z.call U U (λ_=>Tu _ hx i 1 (KZ hp) _))<|S.s<|D.st 0 av U U U U U U U U λ_=>Q.nt<|UW.ret<|S.bH (λhd=>aX (k:=0) hd U U U gQ gT)<|?_
  rfl
theorem gI{a b:ByteArray}(h:a.toList=b.toList):a=b:=by
 rw[Lib.toList_data,Lib.toList_data] at h
 exact ByteArray.ext (Array.toList_inj.1 h)
theorem I5{l:List ByteArray}{s:ByteArray}{i:Nat}(h:dF l s=some i):l[i]? =some s:=by
 unfold dF at h
 obtain⟨h1,h2,_⟩:=List.findIdx?_eq_some_iff_getElem.1 h
 rw[List.getElem?_eq_getElem h1]
 congr 1
 exact(gI (by simpa using h2)).symm
theorem pl_key{x:V}{key:ByteArray}{i:Nat}(h:pl x key=some i):x.ks[i]? =some key:=by
 unfold pl at h
 split at h
 ·cases hi:dF x.ks key with
  |none=>rw[hi] at h;simp at h
  |some j=>
   rw[hi] at h
   simp only at h
   split at h
   ·cases h;exact I5 hi
   ·cases h
 ·cases h
theorem Vw{α:Type}(l:List α)(m i:Nat)(a:α)(hi:i<m)(h:l[i]? =some a):l.take i++[a]++(l.take m).drop (i+1)=l.take m:=by
 have hl:=(List.getElem?_eq_some_iff.1 h).1
 have hlm:i<(l.take m).length:=by rw[List.length_take];omega
 have e1:(l.take m)[i]=a:=by
  have:(l.take m)[i]? =some a:=by rw[List.getElem?_take,if_pos hi];exact h
  rw[List.getElem?_eq_getElem hlm] at this
  exact Option.some.inj this
 have e2:l.take i=(l.take m).take i:=by rw[List.take_take,Nat.min_eq_left (by omega)]
 rw[e2,List.append_assoc,List.singleton_append,<-e1,<-List.drop_eq_getElem_cons hlm,List.take_append_drop]
theorem take_set{α:Type}(l:List α)(m i:Nat)(a:α)(hi:i<m)(hl:i<l.length):l.take i++[a]++(l.take m).drop (i+1)=(l.take m).set i a:=by
 have hlm:i<(l.take m).length:=by rw[List.length_take];omega
 rw[List.set_eq_take_append_cons_drop,if_pos hlm,List.take_take,Nat.min_eq_left (by omega)]
 simp
theorem Nl{α:Type}(l:List α)(m i:Nat)(a:α)(hi:i<=m):l.take i++[a]++(l.take m).drop (i+0)=eB (l.take m) i a:=by
 unfold eB
 rw[List.take_take,Nat.min_eq_left hi];simp
theorem Nn{ks:List ByteArray}{key:ByteArray}{i:Nat}(h1:i<=ks.length)(h2:∀j (h:j<ks.length),j<i->eD ks[j] key=true)(h3:∀h:i<ks.length,eD ks[i] key=false):bY ks key=i:=by
 unfold bY uD
 by_cases hi:i<ks.length
 ·rw[(List.findIdx?_eq_some_iff_getElem).2 ⟨hi,by simp[h3 hi],λj hj=>by simp[h2 j (by omega) hj]⟩]
  show(if (i:Int)<0 then _ else(i:Int).toNat)=i
  rw[if_neg (by omega)];rfl
 ·rw[(List.findIdx?_eq_none_iff).2 (λx hx=>by
   obtain⟨j,hj,rfl⟩:=List.getElem_of_mem hx
   simp[h2 j hj (by omega)])]
  show(if (-1:Int)<0 then _ else _)=i
  rw[if_pos (by omega)];omega
theorem Vx{x:V}{key:ByteArray}{y:V}{i:Nat}(h:pl x key=some i):PU x i 1 [key] [y]=aQ x key y:=by
 have h1:=KZ h
 have h2:=Fg h
 have e1:fw x=x:=by unfold fw;rw[if_pos h2.2.2]
 unfold aQ PU
 rw[e1,h]
 simp only[cutV,zl,Af]
 rw[Vw _ _ _ _ (by omega) (pl_key h),take_set _ _ _ _ (by omega) h2.1,h2.2.2]
theorem Np{x:V}{key:ByteArray}{y:V}{i:Nat}(hk:x.k=5)(h:pl x key=none)(hi:i<=min x.ks.length x.vs.length)(h2:∀j (h:j<x.ks.length),j<i->eD x.ks[j] key=true)(h3:∀h:i<x.ks.length,i<min x.ks.length x.vs.length->eD x.ks[i] key=false):PU x i 0 [key] [y]=aQ x key y:=by
 have e1:fw x=x:=by unfold fw;rw[if_pos hk]
 have e2:bY (x.ks.take (min x.ks.length x.vs.length)) key=i:=Nn (by rw[List.length_take];omega) (λj hj hji=>by rw[List.getElem_take];exact h2 j _ hji) (λhh=>by rw[List.getElem_take];exact h3 _ (by rw[List.length_take] at hh;omega))
 unfold aQ PU
 rw[e1,h]
 simp only[cutV,zl,Af]
 rw[e2,Nl _ _ _ _ (by omega),Nl _ _ _ _ (by omega),hk]
theorem jb(x:V)(hx:Fits x)(hks:∀s∈x.ks,s.size<=4000000)(key:ByteArray)(y:V)(H:Hp):au Tryz.prog 18 [.agg (aC x),.v (.string key),.agg (aC y)] H (bB H (.agg (aC (aQ x key y)))):=by
 by_cases hk:x.k=5
 ·cases hp:pl x key with
  |some i=>
   rw[<-Vx hp]
   have hmin:=KZ hp
   obtain⟨k,n,t,ks,vs⟩:=x
   simp only[V.k] at hk
   refine aF (n:=58) (H0:=H) (I:=[]) Tryz.func18 (by kernel_rfl) U (by rw[Tryz.ntmps18];rfl) .nil<|?_
   refine Q.rg<|S.dd<|D.box U U U λp3=>S.dd<|D.box U U (by exact az _) λp5=>?_
   refine S.dd<|D.al z26 U U U λp6=>Q.nt<|S.sq<|Q.rg<|Q.fa bT U<|Q.lc 2 fB U U U<|Q.bi U U U<|Q.nt<|S.cF U (mJ (by omega))<|UW.skip<|UQ.then<|Q.rg<|S.qu (Z.bW 2 av U U U)<|Q.mv U<|S.qu (Z.call U U (λ_=>Cn hx hp _))<|Q.as U<|Q.nt<|S.sq<|Q.rg<|Q.mv U<|Q.bi U U U<|Q.nt<|S.cT U (decide_eq_true (by omega))<|Q.rg<|S.qu (Z.bW 2 av U U U)<|Q.mv U<|Q.mv U<|S.qu (Z.bl dQ U U (bz U))<|S.qu (Z.bW 1 av U U (Y _))<|S.qu (Z.bl jw U U (by intro cs h;cases List.mem_singleton.1 h;exact⟨by exact az _,by exact Y _⟩))<|?_
   refine S.qu (Z.call U U (λ_=>A7 (.mk k n t ks vs) hx i 1 [key] [y] hmin (by simp) (by simp) _))<|?_
   refine S.s<|D.st 0 av U U U U U U U U λ_=>Q.nt<|UW.ret<|UQ.ax<|S.bH (λhd=>aX (k:=0) hd U U U gQ gT)<|?_
   rfl
  |none=>
   obtain⟨k,n,t,ks,vs⟩:=x
   simp only[V.k] at hk
   simp only[zl] at hks
   have yE:(ks.map encS).length=ks.length:=List.length_map ..
   have hvl:=aS vs
   have Vv:=hx.XG
   have hvl0:=hx.Xn
   simp only[V.ks,V.vs] at Vv hvl0
   refine aF (n:=58) (H0:=H) (I:=[]) Tryz.func18 (by kernel_rfl) U (by rw[Tryz.ntmps18];rfl) .nil<|?_
   refine Q.rg<|S.dd<|D.box U U U λp3=>S.dd<|D.box U U (by exact az _) λp5=>?_
   refine S.dd<|D.al z26 U U U λp6=>Q.nt<|S.sq<|Q.rg<|Q.fa bT U<|Q.lc 2 fB U U U<|Q.bi U U U<|Q.nt<|S.cF U (mJ (by omega))<|UW.skip<|UQ.then<|Q.rg<|S.qu (Z.bW 2 av U U U)<|Q.mv U<|S.qu (Z.call U U (λ_=>Co hx hp _))<|Q.as U<|Q.nt<|S.sq<|Q.rg<|Q.mv U<|Q.bi U U U<|Q.nt<|S.cF U (decide_eq_false (by omega))<|UW.skip<|UQ.then<|Q.rg<|Q.as U<|Q.nt<|Q.rg<|Q.fa dJ U<|Q.lc 2 dB U U U<|S.qu (Z.fM aZ U)<|Q.fa bU U<|Q.lc 2 dR U U U<|S.qu (Z.fM bP U)<|?_
   refine S.qu (Z.eq (u':=.v (.int .i64 ((min ks.length vs.length:Nat):Int))) (Z.min U U) (by rw[yE,hvl];congr 2;split<;>omega)) ?_
   refine Q.as U<|Q.nt<|S.sq<|UW.block<|S.loop (λj:Nat=>[(8,.v (.int .i64 (j:Int))),(9,.v (.int .i64 ((min ks.length vs.length:Nat):Int))),(1,.v (.string key)),(3,.ptr p3 0),(5,.ptr p5 0),(6,.ptr p6 0)]) (λ_=>[(p6,.box 26 (aC zeroV)),(p5,.box 26 (aC y)),(p3,.box 26 (aC (.mk k n t ks vs)))]) (λj=>j<=min ks.length vs.length/\∀i (h:i<ks.length),i<j->eD ks[i] key=true) (λj=>min ks.length vs.length-j) 0 ⟨Nat.zero_le _,λi _ h=>absurd h (by omega)⟩ ⟨rfl,rfl,rfl,rfl,rfl,rfl,trivial⟩ (.refl _)<|?_
   rintro j ⟨hj,hjj⟩
   by_cases hlt:j<min ks.length vs.length
   ·have hgl:=eY ks j (by omega)
    have hsz:=hks _ (List.getElem_mem (by omega:j<ks.length))
    cases hL:eD (ks[j]'(by omega)) key with
    |true=>
     focus
      refine S.sq<|Q.rg<|Q.mv U<|Q.mv U<|Q.bi U U U<|Q.mv U<|?_
      refine S.tD 40 (λVy=>?_) (λVy=>?_)
      rotate_left
      omega
      refine Q.on (Z.fa dJ U)<|Q.on (Z.dM 2 dB U U U)<|Q.on (Z.mv U)<|Q.on (Z.ia aZ U U (by omega) (by assumption) (by rfl))<|?_
      refine Q.on (Z.fO dW U)<|Q.on (Z.mv U)<|Q.on (Z.eq (Z.call U U (λ_=>uG _ _ hsz _)) (by rw[hL]))<|?_
      refine Q.pk U U<|Q.nt<|S.cT U U<|UW.skip<|UQ.then<|UW.block<|S.rg<|Q.mv U<|S.qu (Z.add (r:=((j+1:Nat):Int)) U U (IntWalk.i64_in _ (by omega)))<|Q.as U<|US.nil<|UQ.aB<|?_
      refine S.back _ ⟨rfl,rfl,rfl,rfl,rfl,rfl,trivial⟩ (.refl _) ?_ (by omega)
     refine⟨by omega,λi h3 h4=>?_⟩
     by_cases hij:i=j
     ·subst hij;exact hL
     ·exact hjj i h3 (by omega)
    |false=>
     rw[<-Np (x:=.mk k n t ks vs) (i:=j) hk hp (by simp only[zl,Af];omega) hjj (λ_ _=>hL)]
     focus
      refine S.sq<|Q.rg<|Q.mv U<|Q.mv U<|Q.bi U U U<|Q.mv U<|?_
      refine S.tD 40 (λVy=>?_) (λVy=>?_)
      rotate_left
      omega
      refine Q.on (Z.fa dJ U)<|Q.on (Z.dM 2 dB U U U)<|Q.on (Z.mv U)<|Q.on (Z.ia aZ U U (by omega) (by assumption) (by rfl))<|?_
      refine Q.on (Z.fO dW U)<|Q.on (Z.mv U)<|Q.on (Z.eq (Z.call U U (λ_=>uG _ _ hsz _)) (by rw[hL]))<|?_
      refine Q.pk U U<|Q.nt<|S.cF U U<|UW.exit<|UQ.pass<|UQ.pass<|UQ.here<|UQ.then<|Q.rg<|S.qu (Z.bW 2 av U U U)<|Q.mv U<|Q.mv U<|S.qu (Z.bl dQ U U (bz U))<|S.qu (Z.bW 1 av U U (Y _))<|S.qu (Z.bl jw U U (by intro cs h;cases List.mem_singleton.1 h;exact⟨by exact az _,by exact Y _⟩))<|?_
      refine S.qu (Z.call U U (λ_=>A7 (.mk k n t ks vs) hx j 0 [key] [y] (by simp only[zl,Af];omega) (by simp) (by simp) _))<|?_
      refine S.s<|D.st 0 av U U U U U U U U λ_=>Q.nt<|UW.ret<|S.bH (λhd=>aX (k:=0) hd U U U gQ gT)<|?_
      rfl
   ·rw[<-Np (x:=.mk k n t ks vs) (i:=j) hk hp (by simp only[zl,Af];omega) hjj (λ_ h=>absurd h hlt)]
    refine S.sq<|Q.rg<|Q.mv U<|Q.mv U<|Q.bi U U U<|Q.mv U<|?_
    refine S.tD 40 (λVy=>?_) (λVy=>?_)
    omega
    refine Q.of<|Q.of<|Q.of<|Q.of<|Q.of<|Q.of<|Q.of<|Q.pk U U<|Q.nt<|S.cF U U<|UW.exit<|UQ.pass<|UQ.pass<|UQ.here<|UQ.then<|Q.rg<|S.qu (Z.bW 2 av U U U)<|Q.mv U<|Q.mv U<|S.qu (Z.bl dQ U U (bz U))<|S.qu (Z.bW 1 av U U (Y _))<|S.qu (Z.bl jw U U (by intro cs h;cases List.mem_singleton.1 h;exact⟨by exact az _,by exact Y _⟩))<|?_
    refine S.qu (Z.call U U (λ_=>A7 (.mk k n t ks vs) hx j 0 [key] [y] (by simp only[zl,Af];omega) (by simp) (by simp) _))<|?_
    refine S.s<|D.st 0 av U U U U U U U U λ_=>Q.nt<|UW.ret<|S.bH (λhd=>aX (k:=0) hd U U U gQ gT)<|?_
    rfl
 ·have e1:fw x=.mk 5 0 ⟨#[]⟩ [] []:=by unfold fw;rw[if_neg hk]
  have e2:aQ x key y=.mk 5 0 ⟨#[]⟩ [key] [y]:=by unfold aQ;rw[e1];rfl
  rw[e2]
  obtain⟨k,n,t,ks,vs⟩:=x
  simp only[V.k] at hk
  refine aF (n:=58) (H0:=H) (I:=[]) Tryz.func18 (by kernel_rfl) U (by rw[Tryz.ntmps18];rfl) .nil<|?_
  refine Q.rg<|S.dd<|D.box U U U λp3=>S.dd<|D.box U U (by exact az _) λp5=>?_
  refine S.dd<|D.al z26 U U U λp6=>Q.nt<|S.sq<|Q.rg<|Q.fa bT U<|Q.lc 2 fB U U U<|Q.bi U U U<|Q.nt<|S.cT U (rP (by omega))<|Q.rg<|Q.mv U<|S.qu (Z.bl dQ U U (bz U))<|S.qu (Z.bW 1 av U U (Y _))<|S.qu (Z.bl jw U U (by intro cs h;cases List.mem_singleton.1 h;exact⟨by exact az _,by exact Y _⟩))<|?_
  refine S.qu (Z.bd [0,3,4] gU U U U U U U)<|S.s<|D.st 0 av U U U U U U U U λ_=>Q.nt<|UW.ret<|UQ.ax<|S.bH (λhd=>aX (k:=0) hd U U U gQ gT)<|?_
  rfl
theorem jq(s:ByteArray)(H:Hp):au Tryz.prog 48 [.v (.string s)] H (bB H (.agg (aC (dz s)))):=by
 refine aF (n:=5) (H0:=H) (I:=[]) Tryz.func48 (by kernel_rfl) U (by rw[Tryz.ntmps48];rfl) .nil<|?_
 refine Q.rg<|S.dd<|D.al z26 U U U λp2=>Q.nt<|Q.rg<|Q.mv U<|S.qu (Z.bd [0,2] gU U U U U U U)<|S.s<|D.st 0 av U U U U U U U U λ_=>Q.nt<|UW.ret<|S.bH (λhd=>aX (k:=0) hd U U U gQ gT)<|?_
 rfl
theorem gJ(n:Int)(H:Hp):au Tryz.prog 19 [.v (.int .i64 n)] H (bB H (.agg (aC (fu n)))):=by
 refine aF (n:=5) (H0:=H) (I:=[]) Tryz.func19 (by kernel_rfl) U (by rw[Tryz.ntmps19];rfl) .nil<|?_
 refine Q.rg<|S.dd<|D.al z26 U U U λp2=>Q.nt<|Q.rg<|Q.mv U<|S.qu (Z.bd [0,1] gU U U U U U U)<|S.s<|D.st 0 av U U U U U U U U λ_=>Q.nt<|UW.ret<|S.bH (λhd=>aX (k:=0) hd U U U gQ gT)<|?_
 rfl
def wY(i:Int):List AV:=[.v (.int .u8 i)]
def yM(l:List Int):AV:=.sl (l.map wY)
theorem K3(l:List Int):∀cs∈l.map wY,cs.length=1:=by intro cs h;obtain⟨x,_,rfl⟩:=List.mem_map.1 h;rfl
theorem RV(l:List Int)(k:Nat)(h:k<l.length):(l.map wY)[k]? =some (wY l[k]):=by rw[List.getElem?_map,List.getElem?_eq_getElem h];rfl
def wy(l:List Int):Prop:=∀b∈l,0<=b/\b<256
def Dt:List ByteArray:=[⟨#[97]⟩,⟨#[98]⟩,⟨#[34]⟩,⟨#[92]⟩,⟨#[10]⟩,⟨#[1]⟩,⟨#[195,169]⟩,⟨#[226,130,172]⟩,⟨#[240,159,152,128]⟩,⟨#[255]⟩,⟨#[237,160,128]⟩,⟨#[12]⟩,⟨#[127]⟩,⟨#[239,191,189]⟩,⟨#[8]⟩,⟨#[9]⟩]
def Du(c:List Int):Nat->ByteArray
 |0=>⟨#[]⟩
 |k+1=>Du c k++Dt.getD ((c.getD k 0).tmod 16).toNat ⟨#[]⟩
theorem Nq:∀i:Nat,(Dt.getD i ⟨#[]⟩).size<=4
 |0|1|2|3|4|5|6|7|8|9|10|11|12|13|14|15=>by decide
 |i+16=>by simp[Dt,List.getD];decide
theorem uU(c:List Int):∀k,(Du c k).size<=4*k
 |0=>Nat.zero_le _
 |k+1=>by
  have h1:=uU c k
  have h2:=Nq ((c.getD k 0).tmod 16).toNat
  show(Du c k++Dt.getD ((c.getD k 0).tmod 16).toNat ⟨#[]⟩).size<=_
  rw[ByteArray.size_append];omega
def textOf(c:List Int):ByteArray:=Du c (min c.length 40)
theorem textOf_size(c:List Int):(textOf c).size<=160:=by have:=uU c (min c.length 40);unfold textOf;omega
theorem I6(c:List Int)(hc:wy c)(H:Hp):au Tryz.prog 157 [yM c] H (bB H (.v (.string (textOf c)))):=by
 have yE:(c.map wY).length=c.length:=List.length_map ..
 refine aF (n:=31) (H0:=H) (I:=[]) Tryz.func157 (by kernel_rfl) U (by rw[Tryz.ntmps157];rfl) .nil<|?_
 refine Q.rg<|Q.as U<|Q.nt<|Q.rg<|S.qu (Z.bl dQ U U (bz U))<|Q.as U<|Q.nt<|Q.rg<|Q.as U<|Q.nt<|S.sq<|Q.rg<|Q.as U<|Q.nt<|UW.block<|S.loop (λj:Nat=>[(5,.v (.int .i64 (j:Int))),(4,.v (.string (Du c j))),(3,strs Dt),(0,yM c)]) (λ_=>[]) (λj=>j<=c.length/\j<=40) (λj=>40-j) 0 ⟨Nat.zero_le _,Nat.zero_le _⟩ ⟨rfl,rfl,rfl,rfl,trivial⟩ (.refl _)<|?_
 rintro j ⟨hj,hj40⟩
 by_cases hlt:j<c.length
 ·by_cases hl4:j<40
  ·have hgl:=RV c j hlt
   have hb:=hc _ (List.getElem_mem hlt)
   have hm0:0<=(c[j]).tmod 16:=Int.tmod_nonneg _ hb.1
   have hm1:(c[j]).tmod 16<16:=Int.tmod_lt_of_pos _ (by decide)
   have hg2:=eY Dt ((c[j]).tmod 16).toNat (by show _<16;omega)
   have hs1:=uU c j
   have hs2:=Nq ((c[j]).tmod 16).toNat
   have e1:Dt.getD ((c[j]).tmod 16).toNat ⟨#[]⟩=Dt[((c[j]).tmod 16).toNat]'(by show _<16;omega):=getD_at _
   have e2:c.getD j 0=c[j]:=getD_at hlt
   rw[e1] at hs2
   focus
    refine S.sq<|Q.rg<|Q.mv U<|Q.mv U<|S.qu (Z.fM cK U)<|Q.bi U U U<|Q.mv U<|?_
    refine S.tD 11 (λvY=>?_) (λvY=>?_)
    rotate_left
    omega
    refine Q.on (Z.mv U)<|Q.on (Z.bi U U U)<|Q.pk U U<|Q.nt<|S.cT U (decide_eq_true (by omega))<|UW.skip<|UQ.then<|S.sq<|UW.block<|S.rg<|Q.mv U<|Q.mv U<|Q.mv U<|Q.mv U<|S.qu (Z.ia cK U U (by omega) (by assumption) (by rfl))<|?_
    refine S.qu (Z.fO oW U)<|S.qu (Z.cv Tryz.underlying3 U (IntWalk.i64_in _ (by omega)) (by rw[Tryz.underlying5];rfl))<|?_
    refine Q.mv U<|S.qu (Z.fM aZ U)<|S.qu (Z.eq (u':=.v (.int .i64 ((c[j]).tmod 16))) (Z.bi U U U) U)<|S.qu (Z.ia aZ U U (by omega) (by assumption) (by rfl))<|?_
    refine S.qu (Z.fO dW U)<|S.qu (Z.eq (u':=.v (.string (Du c (j+1)))) (Z.cat U U (by omega)) (by rw[<-e1,<-e2];rfl))<|?_
    refine Q.as U<|US.nil<|UQ.aB<|UQ.then<|S.rg<|Q.mv U<|S.qu (Z.add (r:=((j+1:Nat):Int)) U U (IntWalk.i64_in _ (by omega)))<|Q.as U<|US.nil<|?_
    refine S.back _ ⟨rfl,rfl,rfl,rfl,trivial⟩ (.refl _) (by omega) (by omega)
  ·focus
    refine S.sq<|Q.rg<|Q.mv U<|Q.mv U<|S.qu (Z.fM cK U)<|Q.bi U U U<|Q.mv U<|?_
    refine S.tD 11 (λvY=>?_) (λvY=>?_)
    rotate_left
    omega
    refine Q.on (Z.mv U)<|Q.on (Z.bi U U U)<|Q.pk U U<|Q.nt<|S.cF U (decide_eq_false (by omega))<|UW.exit<|UQ.pass<|UQ.pass<|UQ.here<|UQ.then<|Q.rg<|Q.mv U<|Q.as U<|Q.nt<|UW.ret<|S.bH (λ_=>ak U U)<|?_
    focus (rw[show textOf c=Du c j from by unfold textOf;congr 1;omega];done)
 ·refine S.sq<|Q.rg<|Q.mv U<|Q.mv U<|S.qu (Z.fM cK U)<|Q.bi U U U<|Q.mv U<|?_
  refine S.tD 11 (λvY=>?_) (λvY=>?_)
  omega
  refine Q.of<|Q.of<|Q.pk U U<|Q.nt<|S.cF U U<|UW.exit<|UQ.pass<|UQ.pass<|UQ.here<|UQ.then<|Q.rg<|Q.mv U<|Q.as U<|Q.nt<|UW.ret<|S.bH (λ_=>ak U U)<|?_
  focus (rw[show textOf c=Du c j from by unfold textOf;congr 1;omega];done)
end Go.Proofs.YtonpfomjoiaacaaGreatDoor
end
section
namespace Go.iG
open Go Go.ChangeAt Go.ChangeShapes Go.RowKit Go.WideShapes
section
variable {H:Type} {enc:TypeId×Value->H} {P:Program}
theorem nM{f:Func}{s:ChangeSpec}{apart fresh handsOn again:Bool}{W W':World}{args:Array Value}{v:Value}{ds gs:List (DataW H)}{before pa pv:List MemPlace}
 (hW:DataW.Whole enc P f.params.toList s.vars apart W args.toList ds gs before)
 (hres:∀(b:Nat) (sp:Nat->Bool) (hd:Bool),DataW.TrodAll enc P W' b sp hd f.resultTypes.toList (v.resultList f.resultTypes.size) (s.fn H (ds++gs)).results [])
 (hargs:∀sp:Nat->Bool,(∀p∈before,sp p.block=true)->DataW.TrodAll enc P W' 0 sp true f.params.toList args.toList (s.fn H (ds++gs)).args pa)
 (hvars:∀sp:Nat->Bool,(∀p∈before,sp p.block=true)->DataW.TrodVars enc P W' sp s.vars (s.fn H (ds++gs)).vars pv)
 (hps:before=pa++pv) (hb:Below W.heap.size W W')
 (hok:∀(j:Nat) (t:TypeId) (r:Value),f.resultTypes[j]? =some t->(v.resultList f.resultTypes.size)[j]? =some r->Value.okWide P W' .any 0 t r):
 s.post enc P f apart fresh handsOn again W args v W':=by
 have hold:∀p∈before,(λb=>decide (b<W.heap.size)) p.block=true:=λp hp=>by simpa using hW.lt p hp
 refine⟨ds,gs,before,[],pa,pv,hW,hres _ _ _,hargs _ hold,hvars _ hold,hb.frame _,λ_=>?_⟩
 have hlt:=hW.lt
 obtain⟨_,_,_,_,_,hz,hn⟩:=hW
 refine⟨hok,_,_,([]++pa)++pv,⟨[]++pa,pv,trodAll_append (hargs _ (λ_ _=>rfl)) (hres _ _ _),hvars _ (λ_ _=>rfl),rfl,?_,?_⟩,?_⟩
 ·intro b off hp
  have hp':MemPlace.cell b off∈before:=by rw[hps];simpa using hp
  rw[hb.frozen (hlt _ hp')]
  exact hz b off hp'
 ·intro ha
  have:=hn ha
  rw[hps] at this
  simpa using this
 ·intro p hp _
  rw[hps]
  simpa using hp
end
def jy:ik:=λ_=>none
def A8:Hp:=λ_=>none
theorem Vz(k:Nat):¬Own jy A8 k:=by rintro⟨_,_,_,h,_⟩;cases h
theorem ok_all(k:Nat):bF jy A8 k:=Vz k
end Go.iG
end
section
namespace Go.Proofs.YtonpfomjoiaacaaGreatDoor
open Go Go.ChangeAt Go.ChangeShapes Go.iG Go.RowKit Go.WideShapes
theorem X5{W:World}{a:Addr}{len cap:Nat}{zs:List Int}(hl:len<=zs.length)(hc:len<=cap)(hm:cap<=maxLen)(h:∀i,i<zs.length->W.cell? (a.add i)=some (.int .u8 (zs.getD i 0))):
 eF (bF jy A8) jy W (yM (zs.take len)) (.slice (some a) len cap):=by
 have e:((zs.take len).map wY).length=len:=by rw[List.length_map,List.length_take];omega
 have hr:=eF.sl (ok:=bF jy A8) (ρ:=jy) (w:=W) ((zs.take len).map wY) a cap 1 (λi _=> .int .u8 (zs.getD i 0)) (by rw[e];exact hc) hm (λhn=>⟨ok_all _,by
  have h0:0<zs.length:=by
   cases hs:zs with
   |nil=>rw[hs] at hn;simp at hn
   |cons x r=>simp
  have:=h 0 h0
  simp only[World.cell?,add_block] at this
  rcases Nat.lt_or_ge a.block W.heap.size with h'|h'
  ·exact h'
  ·simp[Array.getElem?_eq_none h'] at this⟩) (K3 _) (λi cs j hi hj=>by
  have hi2:i<len:=by rw[<-e];exact(List.getElem?_eq_some_iff.1 hi).1
  have hcs:cs.length=1:=K3 _ cs (List.mem_of_getElem? hi)
  have hj0:j=0:=by omega
  subst hj0
  simp only[Nat.mul_one,Nat.add_zero]
  exact⟨h i (by omega),rfl⟩) (λi cs j u hi hj=>by
  have hi2:i<len:=by rw[<-e];exact(List.getElem?_eq_some_iff.1 hi).1
  have hil:i<zs.length:=by omega
  rw[List.getElem?_map,List.getElem?_take,if_pos hi2,List.getElem?_eq_getElem hil] at hi
  cases hi
  match j with
  |0=>
   cases hj
   have:zs.getD i 0=zs[i]:=by simp[List.getD,hil]
   rw[this]
   exact .v _
  |j+1=>simp[wY] at hj)
 rw[e] at hr
 exact hr
theorem A9{H:Type}{enc:TypeId×Value->H}{P:Program}{W:World}{base:Nat}{spare:Nat->Bool}{held:Bool}{t e:TypeId}{v:Value}{d:DataW H}{ps:List MemPlace}{fuel:Nat}(ht:P.underlying t=some (.slice e))(he:P.underlying e=some (.int .u8))(hc:P.cellsOf e=1)
 (hv:∃a len cap,v=.slice a len cap) (h:DataW.trod enc P W base spare held fuel t v.cells.toList=some (d,ps)):∃c,eF (bF jy A8) jy W (yM c) v/\wy c:=by
 obtain⟨a0,X6,cap0,rfl⟩:=hv
 rcases open_ints ht he hc h with ⟨hcs,hx⟩|⟨a,len,cap,zs,hcs,_,hl,hm,hz,hx,hcell,hwf⟩
 ·obtain⟨rfl,rfl,rfl⟩:a0=none/\X6=0/\cap0=0:=by simpa[Value.cells] using hcs
  exact⟨[],.nil,by intro b hb;cases hb⟩
 ·obtain⟨rfl,rfl,rfl⟩:a0=some a/\X6=len/\cap0=cap:=by simpa[Value.cells] using hcs
  have hl2:X6<=zs.length:=by rw[hz];split<;>omega
  refine⟨zs.take X6,X5 hl2 hl hm hcell,λb hb=>?_⟩
  have:=hwf b (List.mem_of_mem_take hb)
  simp only[Lit.wf,Bool.and_eq_true,decide_eq_true_eq] at this
  exact⟨this.1,Int.lt_of_le_of_lt this.2 (by decide)⟩
end Go.Proofs.YtonpfomjoiaacaaGreatDoor
end
