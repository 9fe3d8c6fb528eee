/- A part of the proof. -/
import Derived.Test.YtbooeongacgnbaaGreatDoorMw16
import Derived.Test.YtbooeongacgnbaaGreatDoorMw06
import Derived.ProofKit
import Derived.OpenShut
import Derived.ChangeSame
import Derived.ChangeSlices
set_option maxRecDepth 100000
set_option maxHeartbeats 4000000
set_option linter.unusedSectionVars false
set_option linter.unusedVariables false
set_option linter.unusedSimpArgs false
section
namespace Go.Proofs.YtbooeongacgnbaaGreatDoor
open Go Go.gW Go.RowKit
theorem Tp{k n:Int}{t:ByteArray}{ks:List ByteArray}{vs:List V}{key:ByteArray}(hk:k=5){j:Nat}(hj:j<ks.length)(h:ks[j].toList=key.toList)(hb:∀i (h:i<ks.length),i<j->¬ks[i].toList=key.toList):pl (.mk k n t ks vs) key=if j<vs.length then some j else none:=by
 unfold pl
 simp only[V.k,V.ks,V.vs,hk,if_true]
 rw[Cs hj (by simp[h]) (λi h1 h2=>by simpa using λh3=>hb i h1 h2 h3.symm)]
 rfl
theorem Qq{k n:Int}{t:ByteArray}{ks:List ByteArray}{vs:List V}{key:ByteArray}(hb:∀i (h:i<ks.length),¬ks[i].toList=key.toList):pl (.mk k n t ks vs) key=none:=by
 unfold pl
 split
 ·simp only[V.ks]
  rw[yJ (λi h1=>by simpa using λh3=>hb i h1 h3.symm)]
 ·rfl
theorem Qr{k n:Int}{t:ByteArray}{ks:List ByteArray}{vs:List V}{key:ByteArray}(hk:¬k=5):pl (.mk k n t ks vs) key=none:=by
 unfold pl
 rw[if_neg (by simpa[V.k] using hk)]
theorem yO(x:V)(key:ByteArray)(hx:Fits x)(H:Hp):F Tryz.prog 60 [.agg (aN x),.v (.string key)] H (bn H (.v (.int .i64 (oi (pl x key))))):=by
 have N9:=hx.Tm
 obtain⟨k,n,t,ks,vs⟩:=x
 simp only[V.ks] at N9
 have BM:(ks.map encS).length=ks.length:=List.length_map ..
 have hvl:=aS vs
 refine aA (n:=29) (H0:=H) (M:=[]) Tryz.func60 (by kernel_rfl) U (by rw[Tryz.ntmps60];rfl) .nil<|?_
 refine Q.rg<|S.dd<|D.box U U U λp2=>Q.as U<|Q.nt<|S.sq<|Q.rg<|Q.fa eO U<|Q.lc 0 bC U U U<|Q.bi U U U<|Q.nt<|?_
 refine S.cO U (λhc8=>?_) (λhc8=>?_)
 refine Q.rg<|Q.as U<|Q.nt<|UW.ret<|UQ.aj<|S.bG (λ_=>au U U)<|?_
 focus (rw[Qr (by assumption)];rfl;done)
 refine UW.skip<|UQ.then<|S.sq<|Q.rg<|Q.as U<|Q.nt<|UW.block<|S.loop (λj:Nat=>[(5,.v (.int .i64 (j:Int))),(1,.v (.string key)),(2,.ptr p2 0)]) (λ_=>[(p2,.box 27 (aN (.mk k n t ks vs)))]) (λj=>j<=ks.length/\∀i (h:i<ks.length),i<j->¬ks[i].toList=key.toList) (λj=>ks.length-j) 0 ⟨Nat.zero_le _,λi _ h=>absurd h (by omega)⟩ ⟨rfl,rfl,rfl,trivial⟩ (.refl _)<|?_
 rintro j ⟨hj,hjj⟩
 by_cases hlt:j<ks.length
 ·have hgl:=gT ks j hlt
  refine S.sq<|Q.rg<|Q.mv U<|Q.fa dU U<|Q.lc 0 iE U U U<|S.qu (Z.iy bS U)<|Q.bi U U U<|Q.nt<|S.cT U (decide_eq_true (by omega))<|UW.skip<|UQ.then<|S.sq<|UW.block<|Q.rg<|Q.fa dU U<|Q.lc 0 iE U U U<|Q.mv U<|S.qu (Z.ia bS U U (by omega) (by assumption) (by rfl))<|?_
  refine S.qu (Z.lF fJ U)<|Q.mv U<|S.qu (Z.bs U U U)<|Q.nt<|?_
  refine S.cE U (λhc22=>?_) (λhc22=>?_)
  refine S.sq<|Q.rg<|Q.mv U<|Q.fa bQ U<|Q.lc 0 dm U U U<|S.qu (Z.iy bR U)<|Q.bi U U U<|Q.nt<|?_
  refine S.cD U (λhc27=>?_) (λhc27=>?_)
  refine Q.rg<|Q.as U<|Q.nt<|UW.ret<|UQ.aj<|UQ.az<|UQ.aj<|UQ.aj<|UQ.az<|UQ.aj<|S.bG (λ_=>au U U)<|?_
  focus (rw[Tp (by omega) hlt hc22 hjj,if_neg (by omega)];rfl;done)
  refine UW.skip<|UQ.then<|Q.rg<|Q.mv U<|Q.as U<|Q.nt<|UW.ret<|UQ.az<|UQ.aj<|UQ.aj<|UQ.az<|UQ.aj<|S.bG (λ_=>au U U)<|?_
  focus (rw[Tp (by omega) hlt hc22 hjj,if_pos (by omega)];rfl;done)
  refine UW.skip<|UQ.aI<|UQ.then<|S.rg<|Q.mv U<|S.qu (Z.add (r:=((j+1:Nat):Int)) U U (IntWalk.i64_in _ (by omega)))<|Q.as U<|US.nil<|?_
  refine S.back _ ⟨rfl,rfl,rfl,trivial⟩ (.refl _) ?_ (by omega)
  refine⟨by omega,λi h3 h4=>?_⟩
  by_cases hij:i=j
  ·subst hij;exact hc22
  ·exact hjj i h3 (by omega)
 ·refine S.sq<|Q.rg<|Q.mv U<|Q.fa dU U<|Q.lc 0 iE U U U<|S.qu (Z.iy bS U)<|Q.bi U U U<|Q.nt<|S.cF U (decide_eq_false (by omega))<|UW.exit<|UQ.pass<|UQ.pass<|UQ.here<|UQ.then<|Q.rg<|Q.as U<|Q.nt<|UW.ret<|S.bG (λ_=>au U U)<|?_
  focus (rw[Qq λi h=>hjj i h (by omega)];rfl;done)
theorem CJ{x:V}{key:ByteArray}(hx:Fits x){i:Nat}(hp:pl x key=some i)(H:Hp):F Tryz.prog 60 [.agg (aN x),.v (.string key)] H (bn H (.v (.int .i64 (i:Int)))):=by
 have:=yO x key hx H;rw[hp] at this;exact this
theorem CK{x:V}{key:ByteArray}(hx:Fits x)(hp:pl x key=none)(H:Hp):F Tryz.prog 60 [.agg (aN x),.v (.string key)] H (bn H (.v (.int .i64 (-1)))):=by
 have:=yO x key hx H;rw[hp] at this;exact this
theorem oZ(x:V)(hx:Fits x)(s:ByteArray)(H:Hp):
 F Tryz.prog 110 [.agg (aN x),.v (.string s)] H (bn H (.dH [.agg (aN (gL x s).1),.v (.bool (gL x s).2)])):=by
 cases hp:pl x s with
 |none=>
  have hg:gL x s=(zeroV,false):=by unfold gL;rw[hp]
  rw[hg]
  obtain⟨k,n,t,ks,vs⟩:=x
  refine aA (n:=18) (H0:=H) (M:=[]) Tryz.func110 (by kernel_rfl) U (by rw[Tryz.ntmps110];rfl) .nil<|?_
  refine Q.rg<|S.dd<|D.box U U U λp2=>S.dd<|D.al z27 U U U λp4=>Q.as U<|Q.nt<|Q.rg<|S.qu (Z.bg 1 ay U U U)<|Q.mv U<|S.qu (Z.call U U (λ_=>CK hx hp _))<|Q.as U<|Q.nt<|S.sq<|Q.rg<|Q.mv U<|Q.bi U U U<|Q.nt<|S.cT U (decide_eq_true (by omega))<|Q.rg<|S.qu (Z.bd [] dh U U U U U U)<|S.s<|D.st 0 ay U U U U U U U U λ_=>Q.as U<|Q.nt<|UW.ret<|UQ.aj<|S.bG (λhd=>ax U (av (k:=0) hd U U bH bI) (Y U))<|?_
  rfl
 |some i=>
  have hg:gL x s=(x.vs.getD i zeroV,true):=by unfold gL;rw[hp]
  have hlt:=(Gw hp).1
  rw[hg]
  obtain⟨k,n,t,ks,vs⟩:=x
  simp only[V.vs] at hlt⊢
  have hgl:=Gx vs i hlt
  refine aA (n:=18) (H0:=H) (M:=[]) Tryz.func110 (by kernel_rfl) U (by rw[Tryz.ntmps110];rfl) .nil<|?_
  refine Q.rg<|S.dd<|D.box U U U λp2=>S.dd<|D.al z27 U U U λp4=>Q.as U<|Q.nt<|Q.rg<|S.qu (Z.bg 1 ay U U U)<|Q.mv U<|S.qu (Z.call U U (λ_=>CJ hx hp _))<|Q.as U<|Q.nt<|S.sq<|Q.rg<|Q.mv U<|Q.bi U U U<|Q.nt<|S.cF U (decide_eq_false (by omega))<|UW.skip<|UQ.then<|Q.rg<|Q.fa bQ U<|Q.lc 1 dm U U U<|Q.mv U<|S.qu (Z.ia bR U U (by omega) (by assumption) (by exact ak _))<|?_
  refine S.qu (Z.Cn ay U (ak _))<|S.s<|D.l8 0 ay U U U U (by exact aH _) (ak _) U U λ_=>?_
  refine Q.as U<|Q.nt<|UW.ret<|S.bG (λhd=>ax U (av (k:=0) hd U U bH (by rw[ak];exact bI)) (Y U))<|?_
  rfl
def Nq(x:V)(at_ out:Nat)(keys:List ByteArray)(vals:List V):V:=
 .mk 5 x.n x.t (x.ks.take at_++keys++(x.ks.take (min x.ks.length x.vs.length)).drop (at_+out)) (x.vs.take at_++vals++(x.vs.take (min x.ks.length x.vs.length)).drop (at_+out))
theorem three{α:Type}(A B C:List α):(((A.take A.length++B).take (A.length+B.length))++C).take (A.length+B.length+C.length)=A++B++C:=by
 rw[List.take_length,<-List.length_append,List.take_length,<-List.length_append,List.take_length]
theorem Mv(x:V)(hx:Fits x)(at_ out:Nat)(keys:List ByteArray)(vals:List V)(hat:at_+out<=min x.ks.length x.vs.length)(hk1:keys.length<=1000000)(hv1:vals.length<=1000000)(H:Hp):
 F Tryz.prog 61 [.agg (aN x),.v (.int .i64 (at_:Int)),.v (.int .i64 (out:Int)),strs keys,.sl (bE vals)] H (Jh H (Nq x at_ out keys vals)):=by
 have N9:=hx.Tm
 have UL:=hx.Uh
 obtain⟨k,n,t,ks,vs⟩:=x
 simp only[V.ks,V.vs] at N9 UL hat
 have BM:(ks.map encS).length=ks.length:=List.length_map ..
 have hvl:=aS vs
 have hml2:(keys.map encS).length=keys.length:=List.length_map ..
 have hvl2:=aS vals
 refine aA (n:=64) (H0:=H) (M:=[]) Tryz.func61 (by kernel_rfl) U (by rw[Tryz.ntmps61];rfl) .nil<|?_
 refine Q.rg<|S.dd<|D.box U U U λp5=>S.dd<|D.al z27 U U U λxG=>Q.nt<|Q.rg<|Q.fa dU U<|Q.lc 1 iE U U U<|S.qu (Z.iy bS U)<|Q.fa bQ U<|Q.lc 1 dm U U U<|S.qu (Z.iy bR U)<|?_
 refine S.qu (Z.eq (u':=.v (.int .i64 ((min ks.length vs.length:Nat):Int))) (Z.min U U) (by rw[BM,hvl];congr 2;split<;>omega)) ?_
 refine Q.as U<|Q.nt<|Q.rg<|Q.as U<|Q.nt<|Q.rg<|Q.as U<|Q.nt<|Q.rg<|Q.mv U<|Q.fa dU U<|Q.lc 1 iE U U U<|Q.mv U<|S.qu (Z.WB bS U (nO _) (.hi U) (by omega) (by omega) U)<|S.dd<|D.Yy iM U U (.sl (Ee (nO _))) (by(simp only[List.length_append,List.length_drop,List.length_take];omega)) λp26=>?_
 refine Q.as U<|Q.nt<|Q.rg<|Q.mv U<|Q.mv U<|S.dd<|D.ap 0 iM U U (by omega) U (.sl (nO _)) (by(simp only[List.length_append,List.length_drop,List.length_take];omega)) U λp29=>?_
 refine Q.as U<|Q.nt<|Q.rg<|Q.mv U<|Q.fa dU U<|Q.lc 2 iE U U U<|Q.mv U<|Q.mv U<|S.qu (Z.add (r:=((at_+out:Nat):Int)) U U (IntWalk.i64_in _ (by omega)))<|Q.mv U<|S.qu (Z.WB bS U (nO _) (.both U U) (by omega) (by omega) U)<|S.dd<|D.ap 0 iM U U (by(simp only[List.length_append,List.length_drop,List.length_take];omega)) U (.sl (Ee (nO _))) (by(simp only[List.length_append,List.length_drop,List.length_take];omega)) U λp38=>?_
 refine Q.as U<|Q.nt<|Q.rg<|Q.mv U<|Q.fa bQ U<|Q.lc 2 dm U U U<|Q.mv U<|S.qu (Z.WB bR U (iV _) (.hi U) (by omega) (by omega) U)<|S.dd<|D.Yy iw U U (.sl (Ee (iV _))) (by(simp only[List.length_append,List.length_drop,List.length_take];omega)) λp44=>?_
 refine Q.as U<|Q.nt<|Q.rg<|Q.mv U<|Q.mv U<|S.dd<|D.ap 0 iw U U (by omega) U (.sl (iV _)) (by(simp only[List.length_append,List.length_drop,List.length_take];omega)) U λp47=>?_
 refine Q.as U<|Q.nt<|Q.rg<|Q.mv U<|Q.fa bQ U<|Q.lc 3 dm U U U<|Q.mv U<|Q.mv U<|S.qu (Z.add (r:=((at_+out:Nat):Int)) U U (IntWalk.i64_in _ (by omega)))<|Q.mv U<|S.qu (Z.WB bR U (iV _) (.both U U) (by omega) (by omega) U)<|S.dd<|D.ap 0 iw U U (by(simp only[List.length_append,List.length_drop,List.length_take];omega)) U (.sl (Ee (iV _))) (by(simp only[List.length_append,List.length_drop,List.length_take];omega)) U λp56=>?_
 refine Q.as U<|Q.nt<|Q.rg<|Q.fa jT U<|Q.lc 3 Ea U U U<|Q.fa qZ U<|Q.lc 3 fJ U U U<|Q.mv U<|Q.mv U<|S.qu (Z.bd [0,1,2,3,4] dh U U U U U U)<|S.s<|D.st 2 ay U U U U U U U U λ_=>Q.nt<|UW.ret<|?_
 have ek:(Nq (.mk k n t ks vs) at_ out keys vals).ks.map encS=List.drop 0 (List.take at_ (ks.map encS))++keys.map encS++List.drop (at_+out) (List.take (min ks.length vs.length) (ks.map encS)):=by
  simp[Nq,Ag,Ah,List.map_take,List.map_drop]
 have ev:bE (Nq (.mk k n t ks vs) at_ out keys vals).vs=List.drop 0 (List.take at_ (bE vs))++bE vals++List.drop (at_+out) (List.take (min ks.length vs.length) (bE vs)):=by
  simp[Nq,Ag,Ah,dY,List.map_take,List.map_drop]
 have YT:(Nq (.mk k n t ks vs) at_ out keys vals).ks.length=(List.drop 0 (List.take at_ (ks.map encS))).length+(keys.map encS).length+(List.drop (at_+out) (List.take (min ks.length vs.length) (ks.map encS))).length:=by
  rw[<-List.length_map (f:=encS),ek,List.length_append,List.length_append]
 have YU:(Nq (.mk k n t ks vs) at_ out keys vals).vs.length=(List.drop 0 (List.take at_ (bE vs))).length+(bE vals).length+(List.drop (at_+out) (List.take (min ks.length vs.length) (bE vs))).length:=by
  rw[<-aS,ev,List.length_append,List.length_append]
 refine bD [_,_] (λhd=>di (k:=2) hd U U U bH bI) (.cons_cons _ (.cons_cons _ (List.nil_sublist _))) λhd=>⟨_,hd,rfl,_,_,_,_,?_,rfl,?_,?_,?_,?_⟩
 ·rw[YT,YU];rfl
 ·rw[YT];simp only[List.length_append,List.length_take];omega
 ·rw[YT,ek];exact three _ _ _
 ·rw[YU];simp only[List.length_append,List.length_take];omega
 ·rw[YU,ev];exact three _ _ _
theorem AA(x:V)(hx:Fits x)(at_ out:Nat)(keys:List ByteArray)(vals:List V)(hat:at_+out<=min x.ks.length x.vs.length)(hk1:keys.length<=1000000)(hv1:vals.length<=1000000)(H:Hp):
 F Tryz.prog 61 [.agg (aN x),.v (.int .i64 (at_:Int)),.v (.int .i64 (out:Int)),strs keys,.sl (bE vals)] H (bn H (.agg (aN (Nq x at_ out keys vals)))):=Cu (Mv x hx at_ out keys vals hat hk1 hv1 H)
theorem Oa{x:V}{key:ByteArray}{i:Nat}(h:pl x key=some i):i+1<=min x.ks.length x.vs.length:=by have:=Gw h;omega
theorem kK{a b:ByteArray}(h:a.toList=b.toList):a=b:=by
 rw[Lib.toList_data,Lib.toList_data] at h
 exact ByteArray.ext (Array.toList_inj.1 h)
theorem Mw{l:List ByteArray}{s:ByteArray}{i:Nat}(h:jE l s=some i):l[i]? =some s:=by
 unfold jE at h
 obtain⟨h1,h2,_⟩:=List.findIdx?_eq_some_iff_getElem.1 h
 rw[List.getElem?_eq_getElem h1]
 congr 1
 exact(kK (by simpa using h2)).symm
theorem UM{x:V}{key:ByteArray}{i:Nat}(h:pl x key=some i):x.ks[i]? =some key:=by
 unfold pl at h
 split at h
 ·cases hi:jE x.ks key with
  |none=>rw[hi] at h;simp at h
  |some j=>
   rw[hi] at h
   simp only at h
   split at h
   ·cases h;exact Mw hi
   ·cases h
 ·cases h
theorem Oc{α:Type}(l:List α)(m i:Nat)(a:α)(hi:i<m)(h:l[i]? =some a):l.take i++[a]++(l.take m).drop (i+1)=l.take m:=by
 have hl:=(List.getElem?_eq_some_iff.1 h).1
 have hlm:i<(l.take m).length:=by rw[List.length_take];omega
 have e1:(l.take m)[i]=a:=by
  have:(l.take m)[i]? =some a:=by rw[List.getElem?_take,if_pos hi];exact h
  rw[List.getElem?_eq_getElem hlm] at this
  exact Option.some.inj this
 have e2:l.take i=(l.take m).take i:=by rw[List.take_take,Nat.min_eq_left (by omega)]
 rw[e2,List.append_assoc,List.singleton_append,<-e1,<-List.drop_eq_getElem_cons hlm,List.take_append_drop]
theorem take_set{α:Type}(l:List α)(m i:Nat)(a:α)(hi:i<m)(hl:i<l.length):l.take i++[a]++(l.take m).drop (i+1)=(l.take m).set i a:=by
 have hlm:i<(l.take m).length:=by rw[List.length_take];omega
 rw[List.set_eq_take_append_cons_drop,if_pos hlm,List.take_take,Nat.min_eq_left (by omega)]
 simp
theorem GX{α:Type}(l:List α)(m i:Nat)(a:α)(hi:i<=m):l.take i++[a]++(l.take m).drop (i+0)=eP (l.take m) i a:=by
 unfold eP
 rw[List.take_take,Nat.min_eq_left hi];simp
theorem GY{ks:List ByteArray}{key:ByteArray}{i:Nat}(h1:i<=ks.length)(h2:∀j (h:j<ks.length),j<i->iO ks[j] key=true)(h3:∀h:i<ks.length,iO ks[i] key=false):iW ks key=i:=by
 unfold iW uk
 by_cases hi:i<ks.length
 ·rw[(List.findIdx?_eq_some_iff_getElem).2 ⟨hi,by simp[h3 hi],λj hj=>by simp[h2 j (by omega) hj]⟩]
  show(if (i:Int)<0 then _ else(i:Int).toNat)=i
  rw[if_neg (by omega)];rfl
 ·rw[(List.findIdx?_eq_none_iff).2 (λx hx=>by
   obtain⟨j,hj,rfl⟩:=List.getElem_of_mem hx
   simp[h2 j hj (by omega)])]
  show(if (-1:Int)<0 then _ else _)=i
  rw[if_pos (by omega)];omega
theorem Od{x:V}{key:ByteArray}{y:V}{i:Nat}(h:pl x key=some i):Nq x i 1 [key] [y]=dE x key y:=by
 have h1:=Oa h
 have h2:=Gw h
 have e1:dS x=x:=by unfold dS;rw[if_pos h2.2.2]
 unfold dE Nq
 rw[e1,h]
 simp only[cutV,Ag,Ah]
 rw[Oc _ _ _ _ (by omega) (UM h),take_set _ _ _ _ (by omega) h2.1,h2.2.2]
theorem GZ{x:V}{key:ByteArray}{y:V}{i:Nat}(hk:x.k=5)(h:pl x key=none)(hi:i<=min x.ks.length x.vs.length)(h2:∀j (h:j<x.ks.length),j<i->iO x.ks[j] key=true)(h3:∀h:i<x.ks.length,i<min x.ks.length x.vs.length->iO x.ks[i] key=false):Nq x i 0 [key] [y]=dE x key y:=by
 have e1:dS x=x:=by unfold dS;rw[if_pos hk]
 have e2:iW (x.ks.take (min x.ks.length x.vs.length)) key=i:=GY (by rw[List.length_take];omega) (λj hj hji=>by rw[List.getElem_take];exact h2 j _ hji) (λhh=>by rw[List.getElem_take];exact h3 _ (by rw[List.length_take] at hh;omega))
 unfold dE Nq
 rw[e1,h]
 simp only[cutV,Ag,Ah]
 rw[e2,GX _ _ _ _ (by omega),GX _ _ _ _ (by omega),hk]
theorem qp(x:V)(hx:Fits x)(hks:∀s∈x.ks,s.size<=4000000)(key:ByteArray)(y:V)(H:Hp):F Tryz.prog 41 [.agg (aN x),.v (.string key),.agg (aN y)] H (bn H (.agg (aN (dE x key y)))):=by
 by_cases hk:x.k=5
 ·cases hp:pl x key with
  |some i=>
   rw[<-Od hp]
   have hmin:=Oa hp
   obtain⟨k,n,t,ks,vs⟩:=x
   simp only[V.k] at hk
   refine aA (n:=58) (H0:=H) (M:=[]) Tryz.func41 (by kernel_rfl) U (by rw[Tryz.ntmps41];rfl) .nil<|?_
   refine Q.rg<|S.dd<|D.box U U U λp3=>S.dd<|D.box U U (by exact aH _) λp5=>?_
   refine S.dd<|D.al z27 U U U λp6=>Q.nt<|S.sq<|Q.rg<|Q.fa eO U<|Q.lc 2 bC U U U<|Q.bi U U U<|Q.nt<|S.cF U (fE (by omega))<|UW.skip<|UQ.then<|Q.rg<|S.qu (Z.bg 2 ay U U U)<|Q.mv U<|S.qu (Z.call U U (λ_=>CJ hx hp _))<|Q.as U<|Q.nt<|S.sq<|Q.rg<|Q.mv U<|Q.bi U U U<|Q.nt<|S.cT U (decide_eq_true (by omega))<|Q.rg<|S.qu (Z.bg 2 ay U U U)<|Q.mv U<|Q.mv U<|S.qu (Z.bl iM U U (dx U))<|S.qu (Z.bg 1 ay U U (ak _))<|S.qu (Z.bl iw U U (by intro cs h;cases List.mem_singleton.1 h;exact⟨by exact aH _,by exact ak _⟩))<|?_
   refine S.qu (Z.call U U (λ_=>AA (.mk k n t ks vs) hx i 1 [key] [y] hmin (by simp) (by simp) _))<|?_
   refine S.s<|D.st 0 ay U U U U U U U U λ_=>Q.nt<|UW.ret<|UQ.aj<|S.bG (λhd=>di (k:=0) hd U U U bH bI)<|?_
   rfl
  |none=>
   obtain⟨k,n,t,ks,vs⟩:=x
   simp only[V.k] at hk
   simp only[Ag] at hks
   have BM:(ks.map encS).length=ks.length:=List.length_map ..
   have hvl:=aS vs
   have N9:=hx.Tm
   have UL:=hx.Uh
   simp only[V.ks,V.vs] at N9 UL
   refine aA (n:=58) (H0:=H) (M:=[]) Tryz.func41 (by kernel_rfl) U (by rw[Tryz.ntmps41];rfl) .nil<|?_
   refine Q.rg<|S.dd<|D.box U U U λp3=>S.dd<|D.box U U (by exact aH _) λp5=>?_
   refine S.dd<|D.al z27 U U U λp6=>Q.nt<|S.sq<|Q.rg<|Q.fa eO U<|Q.lc 2 bC U U U<|Q.bi U U U<|Q.nt<|S.cF U (fE (by omega))<|UW.skip<|UQ.then<|Q.rg<|S.qu (Z.bg 2 ay U U U)<|Q.mv U<|S.qu (Z.call U U (λ_=>CK hx hp _))<|Q.as U<|Q.nt<|S.sq<|Q.rg<|Q.mv U<|Q.bi U U U<|Q.nt<|S.cF U (decide_eq_false (by omega))<|UW.skip<|UQ.then<|Q.rg<|Q.as U<|Q.nt<|Q.rg<|Q.fa dU U<|Q.lc 2 iE U U U<|S.qu (Z.iy bS U)<|Q.fa bQ U<|Q.lc 2 dm U U U<|S.qu (Z.iy bR U)<|?_
   refine S.qu (Z.eq (u':=.v (.int .i64 ((min ks.length vs.length:Nat):Int))) (Z.min U U) (by rw[BM,hvl];congr 2;split<;>omega)) ?_
   refine Q.as U<|Q.nt<|S.sq<|UW.block<|S.loop (λj:Nat=>[(8,.v (.int .i64 (j:Int))),(9,.v (.int .i64 ((min ks.length vs.length:Nat):Int))),(1,.v (.string key)),(3,.ptr p3 0),(5,.ptr p5 0),(6,.ptr p6 0)]) (λ_=>[(p6,.box 27 (aN zeroV)),(p5,.box 27 (aN y)),(p3,.box 27 (aN (.mk k n t ks vs)))]) (λj=>j<=min ks.length vs.length/\∀i (h:i<ks.length),i<j->iO ks[i] key=true) (λj=>min ks.length vs.length-j) 0 ⟨Nat.zero_le _,λi _ h=>absurd h (by omega)⟩ ⟨rfl,rfl,rfl,rfl,rfl,rfl,trivial⟩ (.refl _)<|?_
   rintro j ⟨hj,hjj⟩
   by_cases hlt:j<min ks.length vs.length
   ·have hgl:=gT ks j (by omega)
    have hsz:=hks _ (List.getElem_mem (by omega:j<ks.length))
    cases hL:iO (ks[j]'(by omega)) key with
    |true=>
     focus
      refine S.sq<|Q.rg<|Q.mv U<|Q.mv U<|Q.bi U U U<|Q.mv U<|?_
      refine S.tD 40 (λjX=>?_) (λjX=>?_)
      rotate_left
      omega
      refine Q.on (Z.fa dU U)<|Q.on (Z.dQ 2 iE U U U)<|Q.on (Z.mv U)<|Q.on (Z.ia bS U U (by omega) (by assumption) (by rfl))<|?_
      refine Q.on (Z.lF fJ U)<|Q.on (Z.mv U)<|Q.on (Z.eq (Z.call U U (λ_=>qb _ _ hsz _)) (by rw[hL]))<|?_
      refine Q.pk U U<|Q.nt<|S.cT U U<|UW.skip<|UQ.then<|UW.block<|S.rg<|Q.mv U<|S.qu (Z.add (r:=((j+1:Nat):Int)) U U (IntWalk.i64_in _ (by omega)))<|Q.as U<|US.nil<|UQ.aI<|?_
      refine S.back _ ⟨rfl,rfl,rfl,rfl,rfl,rfl,trivial⟩ (.refl _) ?_ (by omega)
     refine⟨by omega,λi h3 h4=>?_⟩
     by_cases hij:i=j
     ·subst hij;exact hL
     ·exact hjj i h3 (by omega)
    |false=>
     rw[<-GZ (x:=.mk k n t ks vs) (i:=j) hk hp (by simp only[Ag,Ah];omega) hjj (λ_ _=>hL)]
     focus
      refine S.sq<|Q.rg<|Q.mv U<|Q.mv U<|Q.bi U U U<|Q.mv U<|?_
      refine S.tD 40 (λjX=>?_) (λjX=>?_)
      rotate_left
      omega
      refine Q.on (Z.fa dU U)<|Q.on (Z.dQ 2 iE U U U)<|Q.on (Z.mv U)<|Q.on (Z.ia bS U U (by omega) (by assumption) (by rfl))<|?_
      refine Q.on (Z.lF fJ U)<|Q.on (Z.mv U)<|Q.on (Z.eq (Z.call U U (λ_=>qb _ _ hsz _)) (by rw[hL]))<|?_
      refine Q.pk U U<|Q.nt<|S.cF U U<|UW.exit<|UQ.pass<|UQ.pass<|UQ.here<|UQ.then<|Q.rg<|S.qu (Z.bg 2 ay U U U)<|Q.mv U<|Q.mv U<|S.qu (Z.bl iM U U (dx U))<|S.qu (Z.bg 1 ay U U (ak _))<|S.qu (Z.bl iw U U (by intro cs h;cases List.mem_singleton.1 h;exact⟨by exact aH _,by exact ak _⟩))<|?_
      refine S.qu (Z.call U U (λ_=>AA (.mk k n t ks vs) hx j 0 [key] [y] (by simp only[Ag,Ah];omega) (by simp) (by simp) _))<|?_
      refine S.s<|D.st 0 ay U U U U U U U U λ_=>Q.nt<|UW.ret<|S.bG (λhd=>di (k:=0) hd U U U bH bI)<|?_
      rfl
   ·rw[<-GZ (x:=.mk k n t ks vs) (i:=j) hk hp (by simp only[Ag,Ah];omega) hjj (λ_ h=>absurd h hlt)]
    refine S.sq<|Q.rg<|Q.mv U<|Q.mv U<|Q.bi U U U<|Q.mv U<|?_
    refine S.tD 40 (λjX=>?_) (λjX=>?_)
    omega
    refine Q.of<|Q.of<|Q.of<|Q.of<|Q.of<|Q.of<|Q.of<|Q.pk U U<|Q.nt<|S.cF U U<|UW.exit<|UQ.pass<|UQ.pass<|UQ.here<|UQ.then<|Q.rg<|S.qu (Z.bg 2 ay U U U)<|Q.mv U<|Q.mv U<|S.qu (Z.bl iM U U (dx U))<|S.qu (Z.bg 1 ay U U (ak _))<|S.qu (Z.bl iw U U (by intro cs h;cases List.mem_singleton.1 h;exact⟨by exact aH _,by exact ak _⟩))<|?_
    refine S.qu (Z.call U U (λ_=>AA (.mk k n t ks vs) hx j 0 [key] [y] (by simp only[Ag,Ah];omega) (by simp) (by simp) _))<|?_
    refine S.s<|D.st 0 ay U U U U U U U U λ_=>Q.nt<|UW.ret<|S.bG (λhd=>di (k:=0) hd U U U bH bI)<|?_
    rfl
 ·have e1:dS x=.mk 5 0 ⟨#[]⟩ [] []:=by unfold dS;rw[if_neg hk]
  have e2:dE x key y=.mk 5 0 ⟨#[]⟩ [key] [y]:=by unfold dE;rw[e1];rfl
  rw[e2]
  obtain⟨k,n,t,ks,vs⟩:=x
  simp only[V.k] at hk
  refine aA (n:=58) (H0:=H) (M:=[]) Tryz.func41 (by kernel_rfl) U (by rw[Tryz.ntmps41];rfl) .nil<|?_
  refine Q.rg<|S.dd<|D.box U U U λp3=>S.dd<|D.box U U (by exact aH _) λp5=>?_
  refine S.dd<|D.al z27 U U U λp6=>Q.nt<|S.sq<|Q.rg<|Q.fa eO U<|Q.lc 2 bC U U U<|Q.bi U U U<|Q.nt<|S.cT U (jM (by omega))<|Q.rg<|Q.mv U<|S.qu (Z.bl iM U U (dx U))<|S.qu (Z.bg 1 ay U U (ak _))<|S.qu (Z.bl iw U U (by intro cs h;cases List.mem_singleton.1 h;exact⟨by exact aH _,by exact ak _⟩))<|?_
  refine S.qu (Z.bd [0,3,4] dh U U U U U U)<|S.s<|D.st 0 ay U U U U U U U U λ_=>Q.nt<|UW.ret<|UQ.aj<|S.bG (λhd=>di (k:=0) hd U U U bH bI)<|?_
  rfl
theorem CL(s:ByteArray)(H:Hp):F Tryz.prog 65 [.v (.string s)] H (bn H (.agg (aN (BP s)))):=by
 refine aA (n:=5) (H0:=H) (M:=[]) Tryz.func65 (by kernel_rfl) U (by rw[Tryz.ntmps65];rfl) .nil<|?_
 refine Q.rg<|S.dd<|D.al z27 U U U λp2=>Q.nt<|Q.rg<|Q.mv U<|S.qu (Z.bd [0,2] dh U U U U U U)<|S.s<|D.st 0 ay U U U U U U U U λ_=>Q.nt<|UW.ret<|S.bG (λhd=>di (k:=0) hd U U U bH bI)<|?_
 rfl
theorem CO(n:Int)(H:Hp):F Tryz.prog 88 [.v (.int .i64 n)] H (bn H (.agg (aN (qO n)))):=by
 refine aA (n:=5) (H0:=H) (M:=[]) Tryz.func88 (by kernel_rfl) U (by rw[Tryz.ntmps88];rfl) .nil<|?_
 refine Q.rg<|S.dd<|D.al z27 U U U λp2=>Q.nt<|Q.rg<|Q.mv U<|S.qu (Z.bd [0,1] dh U U U U U U)<|S.s<|D.st 0 ay U U U U U U U U λ_=>Q.nt<|UW.ret<|S.bG (λhd=>di (k:=0) hd U U U bH bI)<|?_
 rfl
def wX(i:Int):List AV:=[.v (.int .u8 i)]
def xH(l:List Int):AV:=.sl (l.map wX)
theorem EP(l:List Int):∀cs∈l.map wX,cs.length=1:=by intro cs h;obtain⟨x,_,rfl⟩:=List.mem_map.1 h;rfl
theorem zw(l:List Int)(k:Nat)(h:k<l.length):(l.map wX)[k]? =some (wX l[k]):=by rw[List.getElem?_map,List.getElem?_eq_getElem h];rfl
def BR(l:List Int):Prop:=∀b∈l,0<=b/\b<256
def yP:List ByteArray:=[⟨#[97]⟩,⟨#[98]⟩,⟨#[34]⟩,⟨#[92]⟩,⟨#[10]⟩,⟨#[1]⟩,⟨#[195,169]⟩,⟨#[226,130,172]⟩,⟨#[240,159,152,128]⟩,⟨#[255]⟩,⟨#[237,160,128]⟩,⟨#[12]⟩,⟨#[127]⟩,⟨#[239,191,189]⟩,⟨#[8]⟩,⟨#[9]⟩]
def yQ(c:List Int):Nat->ByteArray
 |0=>⟨#[]⟩
 |k+1=>yQ c k++yP.getD ((c.getD k 0).tmod 16).toNat ⟨#[]⟩
theorem G5:∀i:Nat,(yP.getD i ⟨#[]⟩).size<=4
 |0|1|2|3|4|5|6|7|8|9|10|11|12|13|14|15=>by decide
 |i+16=>by simp[yP,List.getD];decide
theorem qw(c:List Int):∀k,(yQ c k).size<=4*k
 |0=>Nat.zero_le _
 |k+1=>by
  have h1:=qw c k
  have h2:=G5 ((c.getD k 0).tmod 16).toNat
  show(yQ c k++yP.getD ((c.getD k 0).tmod 16).toNat ⟨#[]⟩).size<=_
  rw[ByteArray.size_append];omega
def textOf(c:List Int):ByteArray:=yQ c (min c.length 40)
theorem textOf_size(c:List Int):(textOf c).size<=160:=by have:=qw c (min c.length 40);unfold textOf;omega
theorem CP(c:List Int)(hc:BR c)(H:Hp):F Tryz.prog 40 [xH c] H (bn H (.v (.string (textOf c)))):=by
 have BM:(c.map wX).length=c.length:=List.length_map ..
 refine aA (n:=31) (H0:=H) (M:=[]) Tryz.func40 (by kernel_rfl) U (by rw[Tryz.ntmps40];rfl) .nil<|?_
 refine Q.rg<|Q.as U<|Q.nt<|Q.rg<|S.qu (Z.bl iM U U (dx U))<|Q.as U<|Q.nt<|Q.rg<|Q.as U<|Q.nt<|S.sq<|Q.rg<|Q.as U<|Q.nt<|UW.block<|S.loop (λj:Nat=>[(5,.v (.int .i64 (j:Int))),(4,.v (.string (yQ c j))),(3,strs yP),(0,xH c)]) (λ_=>[]) (λj=>j<=c.length/\j<=40) (λj=>40-j) 0 ⟨Nat.zero_le _,Nat.zero_le _⟩ ⟨rfl,rfl,rfl,rfl,trivial⟩ (.refl _)<|?_
 rintro j ⟨hj,Xj⟩
 by_cases hlt:j<c.length
 ·by_cases hl4:j<40
  ·have hgl:=zw c j hlt
   have hb:=hc _ (List.getElem_mem hlt)
   have hm0:0<=(c[j]).tmod 16:=Int.tmod_nonneg _ hb.1
   have hm1:(c[j]).tmod 16<16:=Int.tmod_lt_of_pos _ (by decide)
   have hg2:=gT yP ((c[j]).tmod 16).toNat (by show _<16;omega)
   have hs1:=qw c j
   have hs2:=G5 ((c[j]).tmod 16).toNat
   have e1:yP.getD ((c[j]).tmod 16).toNat ⟨#[]⟩=yP[((c[j]).tmod 16).toNat]'(by show _<16;omega):=getD_at _
   have e2:c.getD j 0=c[j]:=getD_at hlt
   rw[e1] at hs2
   focus
    refine S.sq<|Q.rg<|Q.mv U<|Q.mv U<|S.qu (Z.iy jf U)<|Q.bi U U U<|Q.mv U<|?_
    refine S.tD 11 (λiQ=>?_) (λiQ=>?_)
    rotate_left
    omega
    refine Q.on (Z.mv U)<|Q.on (Z.bi U U U)<|Q.pk U U<|Q.nt<|S.cT U (decide_eq_true (by omega))<|UW.skip<|UQ.then<|S.sq<|UW.block<|S.rg<|Q.mv U<|Q.mv U<|Q.mv U<|Q.mv U<|S.qu (Z.ia jf U U (by omega) (by assumption) (by rfl))<|?_
    refine S.qu (Z.lF L6 U)<|S.qu (Z.cv Tryz.underlying3 U (IntWalk.i64_in _ (by omega)) (by rw[Tryz.underlying5];rfl))<|?_
    refine Q.mv U<|S.qu (Z.iy bS U)<|S.qu (Z.eq (u':=.v (.int .i64 ((c[j]).tmod 16))) (Z.bi U U U) U)<|S.qu (Z.ia bS U U (by omega) (by assumption) (by rfl))<|?_
    refine S.qu (Z.lF fJ U)<|S.qu (Z.eq (u':=.v (.string (yQ c (j+1)))) (Z.cat U U (by omega)) (by rw[<-e1,<-e2];rfl))<|?_
    refine Q.as U<|US.nil<|UQ.aI<|UQ.then<|S.rg<|Q.mv U<|S.qu (Z.add (r:=((j+1:Nat):Int)) U U (IntWalk.i64_in _ (by omega)))<|Q.as U<|US.nil<|?_
    refine S.back _ ⟨rfl,rfl,rfl,rfl,trivial⟩ (.refl _) (by omega) (by omega)
  ·focus
    refine S.sq<|Q.rg<|Q.mv U<|Q.mv U<|S.qu (Z.iy jf U)<|Q.bi U U U<|Q.mv U<|?_
    refine S.tD 11 (λiQ=>?_) (λiQ=>?_)
    rotate_left
    omega
    refine Q.on (Z.mv U)<|Q.on (Z.bi U U U)<|Q.pk U U<|Q.nt<|S.cF U (decide_eq_false (by omega))<|UW.exit<|UQ.pass<|UQ.pass<|UQ.here<|UQ.then<|Q.rg<|Q.mv U<|Q.as U<|Q.nt<|UW.ret<|S.bG (λ_=>au U U)<|?_
    focus (rw[show textOf c=yQ c j from by unfold textOf;congr 1;omega];done)
 ·refine S.sq<|Q.rg<|Q.mv U<|Q.mv U<|S.qu (Z.iy jf U)<|Q.bi U U U<|Q.mv U<|?_
  refine S.tD 11 (λiQ=>?_) (λiQ=>?_)
  omega
  refine Q.of<|Q.of<|Q.pk U U<|Q.nt<|S.cF U U<|UW.exit<|UQ.pass<|UQ.pass<|UQ.here<|UQ.then<|Q.rg<|Q.mv U<|Q.as U<|Q.nt<|UW.ret<|S.bG (λ_=>au U U)<|?_
  focus (rw[show textOf c=yQ c j from by unfold textOf;congr 1;omega];done)
end Go.Proofs.YtbooeongacgnbaaGreatDoor
end
section
namespace Go.gW
open Go Go.ChangeAt Go.ChangeShapes Go.RowKit Go.WideShapes
section
variable {H:Type} {enc:TypeId×Value->H} {P:Program}
theorem JG{f:Func}{s:ChangeSpec}{apart fresh handsOn again:Bool}{W W':World}{args:Array Value}{v:Value}{ds gs:List (DataW H)}{before pa pv:List MemPlace}
 (hW:DataW.Whole enc P f.params.toList s.vars apart W args.toList ds gs before)
 (hres:∀(b:Nat) (sp:Nat->Bool) (hd:Bool),DataW.TrodAll enc P W' b sp hd f.resultTypes.toList (v.resultList f.resultTypes.size) (s.fn H (ds++gs)).results [])
 (hargs:∀sp:Nat->Bool,(∀p∈before,sp p.block=true)->DataW.TrodAll enc P W' 0 sp true f.params.toList args.toList (s.fn H (ds++gs)).args pa)
 (hvars:∀sp:Nat->Bool,(∀p∈before,sp p.block=true)->DataW.TrodVars enc P W' sp s.vars (s.fn H (ds++gs)).vars pv)
 (hps:before=pa++pv) (hb:Below W.heap.size W W')
 (hok:∀(j:Nat) (t:TypeId) (r:Value),f.resultTypes[j]? =some t->(v.resultList f.resultTypes.size)[j]? =some r->Value.okWide P W' .any 0 t r):
 s.post enc P f apart fresh handsOn again W args v W':=by
 have hold:∀p∈before,(λb=>decide (b<W.heap.size)) p.block=true:=λp hp=>by simpa using hW.lt p hp
 refine⟨ds,gs,before,[],pa,pv,hW,hres _ _ _,hargs _ hold,hvars _ hold,hb.frame _,λ_=>?_⟩
 have hlt:=hW.lt
 obtain⟨_,_,_,_,_,hz,hn⟩:=hW
 refine⟨hok,_,_,([]++pa)++pv,⟨[]++pa,pv,trodAll_append (hargs _ (λ_ _=>rfl)) (hres _ _ _),hvars _ (λ_ _=>rfl),rfl,?_,?_⟩,?_⟩
 ·intro b off hp
  have hp':MemPlace.cell b off∈before:=by rw[hps];simpa using hp
  rw[hb.frozen (hlt _ hp')]
  exact hz b off hp'
 ·intro ha
  have:=hn ha
  rw[hps] at this
  simpa using this
 ·intro p hp _
  rw[hps]
  simpa using hp
end
def ky:fK:=λ_=>none
def BS:Hp:=λ_=>none
theorem Oe(k:Nat):¬Own ky BS k:=by rintro⟨_,_,_,h,_⟩;cases h
theorem UN(k:Nat):bK ky BS k:=Oe k
end Go.gW
end
section
namespace Go.Proofs.YtbooeongacgnbaaGreatDoor
open Go Go.ChangeAt Go.ChangeShapes Go.gW Go.RowKit Go.WideShapes
theorem Qs{W:World}{a:Addr}{len cap:Nat}{zs:List Int}(hl:len<=zs.length)(hc:len<=cap)(hm:cap<=maxLen)(h:∀i,i<zs.length->W.cell? (a.add i)=some (.int .u8 (zs.getD i 0))):
 dL (bK ky BS) ky W (xH (zs.take len)) (.slice (some a) len cap):=by
 have e:((zs.take len).map wX).length=len:=by rw[List.length_map,List.length_take];omega
 have hr:=dL.sl (ok:=bK ky BS) (ρ:=ky) (w:=W) ((zs.take len).map wX) a cap 1 (λi _=> .int .u8 (zs.getD i 0)) (by rw[e];exact hc) hm (λhn=>⟨UN _,by
  have h0:0<zs.length:=by
   cases hs:zs with
   |nil=>rw[hs] at hn;simp at hn
   |cons x r=>simp
  have:=h 0 h0
  simp only[World.cell?,add_block] at this
  rcases Nat.lt_or_ge a.block W.heap.size with h'|h'
  ·exact h'
  ·simp[Array.getElem?_eq_none h'] at this⟩) (EP _) (λi cs j hi hj=>by
  have hi2:i<len:=by rw[<-e];exact(List.getElem?_eq_some_iff.1 hi).1
  have hcs:cs.length=1:=EP _ cs (List.mem_of_getElem? hi)
  have hj0:j=0:=by omega
  subst hj0
  simp only[Nat.mul_one,Nat.add_zero]
  exact⟨h i (by omega),rfl⟩) (λi cs j u hi hj=>by
  have hi2:i<len:=by rw[<-e];exact(List.getElem?_eq_some_iff.1 hi).1
  have hil:i<zs.length:=by omega
  rw[List.getElem?_map,List.getElem?_take,if_pos hi2,List.getElem?_eq_getElem hil] at hi
  cases hi
  match j with
  |0=>
   cases hj
   have:zs.getD i 0=zs[i]:=by simp[List.getD,hil]
   rw[this]
   exact .v _
  |j+1=>simp[wX] at hj)
 rw[e] at hr
 exact hr
theorem G6{H:Type}{enc:TypeId×Value->H}{P:Program}{W:World}{base:Nat}{spare:Nat->Bool}{held:Bool}{t e:TypeId}{v:Value}{d:DataW H}{ps:List MemPlace}{fuel:Nat}(ht:P.underlying t=some (.slice e))(he:P.underlying e=some (.int .u8))(hc:P.cellsOf e=1)
 (hv:∃a len cap,v=.slice a len cap) (h:DataW.trod enc P W base spare held fuel t v.cells.toList=some (d,ps)):∃c,dL (bK ky BS) ky W (xH c) v/\BR c:=by
 obtain⟨a0,Qt,cap0,rfl⟩:=hv
 rcases open_ints ht he hc h with ⟨hcs,hx⟩|⟨a,len,cap,zs,hcs,_,hl,hm,hz,hx,hcell,hwf⟩
 ·obtain⟨rfl,rfl,rfl⟩:a0=none/\Qt=0/\cap0=0:=by simpa[Value.cells] using hcs
  exact⟨[],.nil,by intro b hb;cases hb⟩
 ·obtain⟨rfl,rfl,rfl⟩:a0=some a/\Qt=len/\cap0=cap:=by simpa[Value.cells] using hcs
  have hl2:Qt<=zs.length:=by rw[hz];split<;>omega
  refine⟨zs.take Qt,Qs hl2 hl hm hcell,λb hb=>?_⟩
  have:=hwf b (List.mem_of_mem_take hb)
  simp only[Lit.wf,Bool.and_eq_true,decide_eq_true_eq] at this
  exact⟨this.1,Int.lt_of_le_of_lt this.2 (by decide)⟩
end Go.Proofs.YtbooeongacgnbaaGreatDoor
end
