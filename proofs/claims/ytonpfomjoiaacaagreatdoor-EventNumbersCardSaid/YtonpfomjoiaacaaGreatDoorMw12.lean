/- A part of the proof. -/
import Derived.Test.YtonpfomjoiaacaaGreatDoorMw11
import Derived.Test.YtonpfomjoiaacaaGreatDoorMw09
import Derived.Test.YtonpfomjoiaacaaGreatDoorMw08
set_option maxRecDepth 100000
set_option maxHeartbeats 4000000
set_option linter.unusedSectionVars false
set_option linter.unusedVariables false
set_option linter.unusedSimpArgs false
section
namespace Go.Proofs.YtonpfomjoiaacaaGreatDoor
open Go Go.iG Go.RowKit
def eD(a b:ByteArray):Bool:=decide (Fj a b<0)
theorem vS(l:List ByteArray)(f:Nat)(df:List AV)(g:ByteArray->Bool)(hl:l.length<=1000000)(H:Hp)(hc:∀x∈l,∀H',Sub H H'->au Tryz.prog f ([.v (.string x)]++df) H' (bB H' (.v (.bool (g x))))):
 au Tryz.prog 110 [strs l,.iF f df] H (bB H (.v (.int .i64 (oi (l.findIdx? g))))):=by
 have yE:(l.map encS).length=l.length:=List.length_map ..
 refine aF (n:=19) (H0:=H) (I:=[]) Tryz.func110 (by kernel_rfl) U (by rw[Tryz.ntmps110];rfl) .nil<|?_
 refine Q.rg<|Q.as U<|Q.nt<|S.sq<|Q.rg<|Q.mv U<|S.qu (Z.fM aZ U)<|Q.mv U<|Q.nt<|UW.block<|S.loop (λk:Nat=>[(8,.v (.int .i64 (k:Int))),(6,strs l),(7,.v (.int .i64 ((l.map encS).length:Int))),(0,strs l),(1,.iF f df)]) (λ_=>[]) (λk=>k<=l.length/\∀(j:Nat) (h:j<l.length),j<k->g l[j]=false) (λk=>l.length-k) 0 ⟨Nat.zero_le _,λj _ h=>absurd h (by omega)⟩ ⟨rfl,rfl,rfl,rfl,rfl,trivial⟩ (.refl _)<|?_
 rintro k ⟨hk,hj⟩
 by_cases hlt:k<l.length
 ·focus
   refine Q.rg<|Q.bi U U U<|Q.nt<|S.sq<|S.cT U (decide_eq_true (by omega))<|UW.skip<|UQ.then<|S.sq<|UW.block<|Q.rg<|Q.mv U<|Q.as U<|Q.nt<|Q.rg<|Q.mv U<|Q.mv U<|Q.mv U<|S.qu (Z.ia aZ U U (by omega) (eY _ _ (by omega)) U)<|S.qu (Z.fO dW U)<|S.qu (Z.oV U U (λhd=>hc _ (List.getElem_mem hlt) _ (lC hd)))<|Q.nt<|?_
   refine S.cB U (λhc0=>?_) (λhc0=>?_)
   refine Q.rg<|Q.mv U<|Q.as U<|Q.nt<|UW.ret<|UQ.aI<|UQ.ax<|UQ.ax<|UQ.aI<|UQ.ax<|S.bH (λ_=>ak U U)<|?_
   rotate_left
   refine UW.skip<|UQ.aB<|UQ.then<|S.rg<|S.qu (Z.add (r:=((k+1:Nat):Int)) U U (IntWalk.i64_in _ (by omega)))<|Q.mv U<|US.nil<|?_
   refine S.back _ ⟨rfl,rfl,rfl,rfl,rfl,trivial⟩ (.refl _) ?_ (by omega)
   rotate_left
  ·rw[(List.findIdx?_eq_some_iff_getElem).2 ⟨hlt,hc0,λj hjk=>by rw[hj j (by omega) hjk];simp⟩];rfl
  ·refine⟨by omega,λj h3 h4=>?_⟩
   by_cases hjk:j=k
   ·subst hjk;exact hc0
   ·exact hj j h3 (by omega)
 ·refine Q.rg<|Q.bi U U U<|Q.nt<|S.sq<|S.cF U (decide_eq_false (by omega))<|UW.exit<|UQ.pass<|UQ.pass<|UQ.here<|UQ.then<|Q.rg<|Q.as U<|Q.nt<|UW.ret<|S.bH (λ_=>ak U U)<|?_
  rw[(List.findIdx?_eq_none_iff).2 (λx hx=>by
   obtain⟨j,hj2,rfl⟩:=List.getElem_of_mem hx
   exact hj j hj2 (by omega))];rfl
theorem Fp(k key:ByteArray)(p:Nat)(H:Hp)(hp:H p=some (.box 9 [.v (.string key)])):au Tryz.prog 111 [.v (.string k),.ptr p 0] H (bB H (.v (.bool (!(eD k key))))):=by
 refine aF (n:=8) (H0:=H) (I:=[]) Tryz.func111 (by kernel_rfl) U (by rw[Tryz.ntmps111];rfl) .nil<|?_
 refine Q.rg<|Q.as U<|Q.nt<|Q.rg<|Q.mv U<|S.qu (Z.ldo (by assumption) dW U U)<|?_
 refine S.qu (Z.call U U (λ_=>Td _ _ _))<|S.qu (Z.not U)<|Q.as U<|Q.nt<|UW.ret<|S.bH (λ_=>ak U U)<|?_
 rfl
def uD(ks:List ByteArray)(key:ByteArray):Int:=oi (ks.findIdx? λk=>!(eD k key))
def bY(ks:List ByteArray)(key:ByteArray):Nat:=if uD ks key<0 then ks.length else(uD ks key).toNat
theorem Te(ks:List ByteArray)(key:ByteArray):uD ks key<=ks.length:=by
 unfold uD
 cases h:ks.findIdx? (λk=>!(eD k key)) with
 |none=>show(-1:Int)<=_;omega
 |some i=>
  have:=(List.findIdx?_eq_some_iff_getElem.1 h).1
  show(i:Int)<=_;omega
theorem l5(ks:List ByteArray)(key:ByteArray):bY ks key<=ks.length:=by
 have:=Te ks key
 unfold bY;split<;>omega
def fw(x:V):V:=if x.k=5 then x else .mk 5 0 ⟨#[]⟩ [] []
def aQ(x:V)(key:ByteArray)(y:V):V:=match pl (fw x) key with
 |some i=> .mk (fw x).k (fw x).n (fw x).t (cutV (fw x)).ks ((cutV (fw x)).vs.set i y)
 |none=> .mk (fw x).k (fw x).n (fw x).t (eB (cutV (fw x)).ks (bY (cutV (fw x)).ks key) key) (eB (cutV (fw x)).vs (bY (cutV (fw x)).ks key) y)
theorem Fits.obj{x:V}(h:Fits x):Fits (fw x):=by
 unfold fw
 split
 ·exact h
 ·exact .mk _ _ _ _ _ (by decide) (by decide) (by simp)
theorem wS(x:V):(cutV x).ks.length=(cutV x).vs.length:=by simp[cutV,V.ks,V.vs]
theorem sH{α:Type}(l:List α)(n:Nat)(h:l.length=n):(l.drop 0).take n=l:=by subst h;simp
theorem Nb(l:List V)(i:Nat)(x:V):bu (eB l i x)=eB (bu l) i (aC x):=by simp[eX,eB]
theorem Vl{x:V}{key:ByteArray}(hx:Fits x){i:Nat}(hp:pl x key=some i)(H:Hp):au Tryz.prog 98 [.agg (aC x),.v (.string key)] H (bB H (.v (.int .i64 (i:Int)))):=by
 have:=qy x key hx H;rw[hp] at this;exact this
theorem Fq{x:V}{key:ByteArray}(hx:Fits x)(hp:pl x key=none)(H:Hp):au Tryz.prog 98 [.agg (aC x),.v (.string key)] H (bB H (.v (.int .i64 (-1)))):=by
 have:=qy x key hx H;rw[hp] at this;exact this
theorem IM{α:Type}(l:List α)(i:Nat)(a b:α)(h:i<=l.length):(eB l i a).set i b=eB l i b:=by
 unfold eB
 rw[List.set_append_right _ _ (by rw[List.length_take];omega)]
 have:i-(l.take i).length=0:=by rw[List.length_take];omega
 rw[this];rfl
theorem zg(ks:List ByteArray)(key:ByteArray)(i:Nat)(hi:i<=ks.length)(hl:ks.length<=1000000)(id kP:Nat)(G:Hp)(hD:aP G [(id,.row 9 1 (ks.map encS)),(kP,.row 9 1 [[.v (.string key)]])]):
 au Tryz.prog 113 [.own id 0 ks.length 1,.v (.int .i64 (i:Int)),.own kP 0 1 1] (aD G [(id,.row 9 1 (ks.map encS)),(kP,.row 9 1 [[.v (.string key)]])])
  (λu H'=>∃news,aP G news/\H'=aD G news/\∃id',u=.own id' 0 (ks.length+1) 1/\news=[(id',.row 9 1 ((eB ks i key).map encS))]):=by
 have e1:(ks.map encS).length=ks.length:=List.length_map ..
 have:=J3 (ks.map encS) (j5 _) (by omega) (encS key) U i (by omega) id kP G hD
 rw[e1] at this
 refine this.mono λu H' ⟨news,h1,h2,id',h3,h4⟩=>⟨news,h1,h2,id',by rw[h3,e1],?_⟩
 rw[h4];simp[eB]
theorem zh(vs:List V)(y:V)(i:Nat)(hi:i<=vs.length)(hl:vs.length<=1000000)(id kP:Nat)(G:Hp)(hD:aP G [(id,.row 26 5 (bu vs)),(kP,.row 26 5 [aC y])]):
 au Tryz.prog 114 [.own id 0 vs.length 5,.v (.int .i64 (i:Int)),.own kP 0 1 5] (aD G [(id,.row 26 5 (bu vs)),(kP,.row 26 5 [aC y])])
  (λu H'=>∃news,aP G news/\H'=aD G news/\∃id',u=.own id' 0 (vs.length+1) 5/\news=[(id',.row 26 5 (bu (eB vs i y)))]):=by
 have e1:=aS vs
 have:=J4 (bu vs) (jR _) (by omega) (aC y) (Y _) i (by omega) id kP G hD
 rw[e1] at this
 refine this.mono λu H' ⟨news,h1,h2,id',h3,h4⟩=>⟨news,h1,h2,id',by rw[h3,e1],?_⟩
 rw[h4,Nb]
theorem IP{ks:List ByteArray}{key:ByteArray}(hl:ks.length<=1000000)(hf:ks.findIdx? (λk=>!(eD k key))=none)(p4:Nat)(H:Hp)(hp:H p4=some (.box 9 [.v (.string key)])):
 au Tryz.prog 110 [strs ks,.iF 111 [.ptr p4 0]] H (bB H (.v (.int .i64 (-1)))):=by
 have:=vS ks 111 [.ptr p4 0] (λk=>!(eD k key)) hl H λz _ H' hs=>Fp z key p4 H' (hs _ _ hp)
 rw[hf] at this;exact this
theorem Tf{ks:List ByteArray}{key:ByteArray}(hl:ks.length<=1000000){i:Nat}(hf:ks.findIdx? (λk=>!(eD k key))=some i)(p4:Nat)(H:Hp)(hp:H p4=some (.box 9 [.v (.string key)])):
 au Tryz.prog 110 [strs ks,.iF 111 [.ptr p4 0]] H (bB H (.v (.int .i64 (i:Int)))):=by
 have:=vS ks 111 [.ptr p4 0] (λk=>!(eD k key)) hl H λz _ H' hs=>Fp z key p4 H' (hs _ _ hp)
 rw[hf] at this;exact this
theorem vk(k n:Int)(t:ByteArray)(ks:List ByteArray)(vs:List V):V.k (.mk k n t ks vs)=k:=rfl
theorem vn(k n:Int)(t:ByteArray)(ks:List ByteArray)(vs:List V):V.n (.mk k n t ks vs)=n:=rfl
theorem vt(k n:Int)(t:ByteArray)(ks:List ByteArray)(vs:List V):V.t (.mk k n t ks vs)=t:=rfl
theorem zl(k n:Int)(t:ByteArray)(ks:List ByteArray)(vs:List V):V.ks (.mk k n t ks vs)=ks:=rfl
theorem Af(k n:Int)(t:ByteArray)(ks:List ByteArray)(vs:List V):V.vs (.mk k n t ks vs)=vs:=rfl
theorem Ch(l:List V)(i:Nat)(y:V):bu (l.set i y)=(bu l).set i (aC y):=by rw[eX,eX,List.map_set]
theorem with_a(x:V)(hx:Fits x)(key:ByteArray)(y:V)(hy:Fits y)(H:Hp)(i:Nat)(hk:x.k=5)(hp:pl x key=some i):
 au Tryz.prog 77 [.agg (aC x),.v (.string key),.agg (aC y)] H (M8 H (.mk x.k x.n x.t (cutV x).ks ((cutV x).vs.set i y))):=by
 obtain⟨k,n,t,ks,vs⟩:=x
 have hf:Fits (.mk k n t ks vs):=hx
 have hcf:=hf.cut
 have hkl:=hcf.XG
 have hvl:=hcf.Xn
 have XI:=wS (.mk k n t ks vs)
 have hev:=aS (cutV (.mk k n t ks vs)).vs
 have hek:((cutV (.mk k n t ks vs)).ks.map encS).length=(cutV (.mk k n t ks vs)).ks.length:=List.length_map ..
 simp only[V.k] at hk
 have hi:i<(cutV (.mk k n t ks vs)).vs.length:=by
  have h0:=Fg hp
  simp only[V.ks,V.vs] at h0
  simp only[cutV,V.ks,V.vs,List.length_take];omega
 refine aF (n:=49) (H0:=H) (I:=[]) Tryz.func77 (by kernel_rfl) U (by rw[Tryz.ntmps77];rfl) .nil<|?_
 refine Q.rg<|S.dd<|D.box U U U λp3=>S.dd<|D.box U U U λp4=>S.dd<|D.box U U (by exact az _) λp5=>?_
 refine S.dd<|D.al z26 U U U λp6=>Q.nt<|S.sq<|Q.rg<|Q.fa bT U<|Q.lc 3 fB U U U<|Q.bi U U U<|Q.nt<|S.cF U (mJ (by omega))<|UW.skip<|UQ.then<|Q.rg<|S.qu (Z.bW 3 av U U U)<|Q.lc 2 dW U U U<|S.qu (Z.call U U (λ_=>Vl hf hp _))<|Q.as U<|Q.nt<|Q.rg<|S.qu (Z.bW 3 av U U U)<|S.dd<|D.cn U U (λ_=>wR (.mk k n t ks vs) hf _)<|?_
 rintro _ _ ⟨pi,pj,rfl,rfl⟩
 refine S.s<|D.st 5 av U U U U U U U U λ_=>Q.nt<|S.sq<|Q.rg<|Q.mv U<|Q.bi U U U<|Q.nt<|S.cF U (decide_eq_false (by omega))<|UW.skip<|UQ.then<|S.sq<|?_
 refine' UW.bG (by kernel_rfl) [0,1,0,0,8,31,63] [some 42,some 43,some 44,some 45,some 46,some 47,none] [some (42,_),some (43,_),some (44,_),some (45,_),some (46,_),some (47,_),none] [6] [1,3] U (by decide) (by decide) (M.free (by decide) U U ?Pt (M.held (by decide) U U ?Pv (M.free (by decide) U U ?Pw (M.held (by decide) U U ?Px (M.free (by decide) U U ?Py (M.free (by decide) U U ?Pz (M.skip M.nil))))))) ?q0_k
 case Pt=>(intro _;exact Z.fa bU rfl)
 case Pv=>exact Z.dM 5 dR rfl rfl rfl
 case Pw=>(intro _;exact Z.mv rfl)
 case Px=>exact Z.bW 3 av rfl rfl (Y _)
 case Py=>(intro _;exact Z.call rfl rfl (λ_=>jF (kT y hy _)))
 case Pz=>(intro _;exact Z.io bP rfl rfl (by omega) (by omega))
 refine CH.bX U U<|D.str 0 av U U U (by omega) U U (by exact az _) (Y _) (jR _) λ_=>?_
 refine CH.nil<|?_
 simp only[app,bS]
 refine UQ.then<|Q.rg<|S.qu (Z.bW 5 av U U U)<|S.s<|D.st 2 av U U U U U U U U λ_=>Q.nt<|UW.ret<|?_
 exact bR [_,_] (λhd=>aX (k:=2) hd U U U gQ gT) (.cons_cons _ (.cons_cons _ (List.nil_sublist _))) λhd=>⟨_,hd,rfl,_,_,_,_,by(rw[vk,vn,vt,zl,Af,List.length_set])<;>rfl,rfl,by rw[zl,List.length_map];exact Nat.le_refl _,by rw[zl];exact List.take_of_length_le (by rw[List.length_map];exact Nat.le_refl _),by rw[Af,List.length_set,List.length_set,aS];exact Nat.le_refl _,by rw[List.take_of_length_le (by rw[Af,List.length_set,List.length_set,aS];exact Nat.le_refl _),Nat.zero_add,Int.toNat_natCast,<-Ch]<;>rfl⟩
theorem with_b(x:V)(hx:Fits x)(key:ByteArray)(y:V)(hy:Fits y)(H:Hp)(hk:x.k=5)(hp:pl x key=none)(OZ:(cutV x).ks.findIdx? (λk=>!(eD k key))=none):
 au Tryz.prog 77 [.agg (aC x),.v (.string key),.agg (aC y)] H (M8 H (.mk x.k x.n x.t (eB (cutV x).ks (cutV x).ks.length key) (eB (cutV x).vs (cutV x).ks.length y))):=by
 obtain⟨k,n,t,ks,vs⟩:=x
 have hf:Fits (.mk k n t ks vs):=hx
 have hcf:=hf.cut
 have hkl:=hcf.XG
 have hvl:=hcf.Xn
 have XI:=wS (.mk k n t ks vs)
 have hev:=aS (cutV (.mk k n t ks vs)).vs
 have hek:((cutV (.mk k n t ks vs)).ks.map encS).length=(cutV (.mk k n t ks vs)).ks.length:=List.length_map ..
 simp only[V.k] at hk
 have hi:(cutV (.mk k n t ks vs)).ks.length<=(cutV (.mk k n t ks vs)).ks.length:=Nat.le_refl _
 have hi2:(cutV (.mk k n t ks vs)).ks.length<=(cutV (.mk k n t ks vs)).vs.length:=Nat.le_of_eq XI
 have hev2:=(aS (eB (cutV (.mk k n t ks vs)).vs (cutV (.mk k n t ks vs)).ks.length zeroV)).trans (dA _ _ _ hi2)
 refine aF (n:=49) (H0:=H) (I:=[]) Tryz.func77 (by kernel_rfl) U (by rw[Tryz.ntmps77];rfl) .nil<|?_
 refine Q.rg<|S.dd<|D.box U U U λp3=>S.dd<|D.box U U U λp4=>S.dd<|D.box U U (by exact az _) λp5=>?_
 refine S.dd<|D.al z26 U U U λp6=>Q.nt<|S.sq<|Q.rg<|Q.fa bT U<|Q.lc 3 fB U U U<|Q.bi U U U<|Q.nt<|S.cF U (mJ (by omega))<|UW.skip<|UQ.then<|Q.rg<|S.qu (Z.bW 3 av U U U)<|Q.lc 2 dW U U U<|S.qu (Z.call U U (λ_=>Fq hf hp _))<|Q.as U<|Q.nt<|Q.rg<|S.qu (Z.bW 3 av U U U)<|S.dd<|D.cn U U (λ_=>wR (.mk k n t ks vs) hf _)<|?_
 rintro _ _ ⟨pi,pj,rfl,rfl⟩
 refine S.s<|D.st 5 av U U U U U U U U λ_=>Q.nt<|S.sq<|Q.rg<|Q.mv U<|Q.bi U U U<|Q.nt<|S.cT U (decide_eq_true (by omega))<|Q.rg<|Q.fa dJ U<|Q.lc 5 dB U U U<|S.qu (Z.mf U)<|S.qu (Z.cbw [(p4,.box 9 [.v (.string key)])] (.cons _ (.cons _ (.cons _ (.cons _ (.cons_cons _ (List.nil_sublist _)))))) U U U (.own (k:=1) U (by omega) (sH _ _ hek) (.keep .nil)) (λhd=>IP hkl OZ p4 _ (hd.at_ (k:=0) U)))<|Q.as U<|Q.nt<|S.sq<|Q.rg<|Q.mv U<|Q.bi U U U<|Q.nt<|S.cT U (decide_eq_true (by omega))<|S.rg<|Q.fa dJ U<|Q.lc 5 dB U U U<|S.qu (Z.OX aZ U)<|Q.as U<|Q.nt<|Q.rg<|Q.fa dJ U<|Q.lc 5 dB U U U<|Q.mv U<|Q.lc 4 dW U U U<|S.dd<|D.lit dQ U U (bz U) λp32=>S.dd<|D.co (.cons 2 U (.cons 0 U .nil)) U U (λG hD=>zg (cutV (.mk k n t ks vs)).ks key (cutV (.mk k n t ks vs)).ks.length (by omega) hkl _ _ G hD)<|?_
 rintro _ _ ⟨pk,rfl,rfl⟩
 refine Q.fa dJ U<|S.s<|D.st 5 dB U U U U U U U U λ_=>Q.nt<|S.rg<|Q.fa bU U<|Q.lc 5 dR U U U<|Q.mv U<|S.qu (Z.bd [] gU U U U U U U)<|S.dd<|D.lit jw U U (bz U) λp39=>S.dd<|D.co (.cons 2 U (.cons 0 U .nil)) U U (λG hD=>zh (cutV (.mk k n t ks vs)).vs zeroV (cutV (.mk k n t ks vs)).ks.length (by omega) hvl _ _ G hD)<|?_
 rintro _ _ ⟨pv,rfl,rfl⟩
 refine Q.fa bU U<|S.s<|D.st 5 dR U U U U U U U U λ_=>Q.nt<|S.sq<|?_
 refine' UW.bG (by kernel_rfl) [0,1,0,0,8,31,63] [some 42,some 43,some 44,some 45,some 46,some 47,none] [some (42,_),some (43,_),some (44,_),some (45,_),some (46,_),some (47,_),none] [6] [1,3] U (by decide) (by decide) (M.free (by decide) U U ?Pt (M.held (by decide) U U ?Pv (M.free (by decide) U U ?Pw (M.held (by decide) U U ?Px (M.free (by decide) U U ?Py (M.free (by decide) U U ?Pz (M.skip M.nil))))))) ?q0_k
 case Pt=>(intro _;exact Z.fa bU rfl)
 case Pv=>exact Z.dM 5 dR rfl rfl rfl
 case Pw=>(intro _;exact Z.mv rfl)
 case Px=>exact Z.bW 3 av rfl rfl (Y _)
 case Py=>(intro _;exact Z.call rfl rfl (λ_=>jF (kT y hy _)))
 case Pz=>(intro _;exact Z.io bP rfl rfl (by omega) (by omega))
 refine CH.bX U U<|D.str 0 av U U U (by omega) U U (by exact az _) (Y _) (jR _) λ_=>?_
 refine CH.nil<|?_
 simp only[app,bS]
 refine UQ.then<|Q.rg<|S.qu (Z.bW 5 av U U U)<|S.s<|D.st 2 av U U U U U U U U λ_=>Q.nt<|UW.ret<|?_
 exact bR [_,_] (λhd=>aX (k:=2) hd U U U gQ gT) (.cons_cons _ (.cons_cons _ (List.nil_sublist _))) λhd=>⟨_,hd,rfl,_,_,_,_,by(rw[vk,vn,vt,zl,Af,dA _ _ _ hi,dA _ _ _ hi2])<;>rfl,rfl,by rw[zl,List.length_map];exact Nat.le_refl _,by rw[zl];exact List.take_of_length_le (by rw[List.length_map];exact Nat.le_refl _),by rw[Af,List.length_set,aS,dA _ _ _ hi2,dA _ _ _ hi2];exact Nat.le_refl _,by rw[List.take_of_length_le (by rw[Af,List.length_set,aS,dA _ _ _ hi2,dA _ _ _ hi2];exact Nat.le_refl _),Nat.zero_add,Int.toNat_natCast,<-Ch,IM _ _ _ _ hi2]<;>rfl⟩
theorem with_c(x:V)(hx:Fits x)(key:ByteArray)(y:V)(hy:Fits y)(H:Hp)(i:Nat)(hk:x.k=5)(hp:pl x key=none)(OZ:(cutV x).ks.findIdx? (λk=>!(eD k key))=some i):
 au Tryz.prog 77 [.agg (aC x),.v (.string key),.agg (aC y)] H (M8 H (.mk x.k x.n x.t (eB (cutV x).ks i key) (eB (cutV x).vs i y))):=by
 obtain⟨k,n,t,ks,vs⟩:=x
 have hf:Fits (.mk k n t ks vs):=hx
 have hcf:=hf.cut
 have hkl:=hcf.XG
 have hvl:=hcf.Xn
 have XI:=wS (.mk k n t ks vs)
 have hev:=aS (cutV (.mk k n t ks vs)).vs
 have hek:((cutV (.mk k n t ks vs)).ks.map encS).length=(cutV (.mk k n t ks vs)).ks.length:=List.length_map ..
 simp only[V.k] at hk
 have hi:i<=(cutV (.mk k n t ks vs)).ks.length:=Nat.le_of_lt (List.findIdx?_eq_some_iff_getElem.1 OZ).1
 have hi2:=XI▸hi
 have hev2:=(aS (eB (cutV (.mk k n t ks vs)).vs i zeroV)).trans (dA _ _ _ hi2)
 refine aF (n:=49) (H0:=H) (I:=[]) Tryz.func77 (by kernel_rfl) U (by rw[Tryz.ntmps77];rfl) .nil<|?_
 refine Q.rg<|S.dd<|D.box U U U λp3=>S.dd<|D.box U U U λp4=>S.dd<|D.box U U (by exact az _) λp5=>?_
 refine S.dd<|D.al z26 U U U λp6=>Q.nt<|S.sq<|Q.rg<|Q.fa bT U<|Q.lc 3 fB U U U<|Q.bi U U U<|Q.nt<|S.cF U (mJ (by omega))<|UW.skip<|UQ.then<|Q.rg<|S.qu (Z.bW 3 av U U U)<|Q.lc 2 dW U U U<|S.qu (Z.call U U (λ_=>Fq hf hp _))<|Q.as U<|Q.nt<|Q.rg<|S.qu (Z.bW 3 av U U U)<|S.dd<|D.cn U U (λ_=>wR (.mk k n t ks vs) hf _)<|?_
 rintro _ _ ⟨pi,pj,rfl,rfl⟩
 refine S.s<|D.st 5 av U U U U U U U U λ_=>Q.nt<|S.sq<|Q.rg<|Q.mv U<|Q.bi U U U<|Q.nt<|S.cT U (decide_eq_true (by omega))<|Q.rg<|Q.fa dJ U<|Q.lc 5 dB U U U<|S.qu (Z.mf U)<|S.qu (Z.cbw [(p4,.box 9 [.v (.string key)])] (.cons _ (.cons _ (.cons _ (.cons _ (.cons_cons _ (List.nil_sublist _)))))) U U U (.own (k:=1) U (by omega) (sH _ _ hek) (.keep .nil)) (λhd=>Tf hkl OZ p4 _ (hd.at_ (k:=0) U)))<|Q.as U<|Q.nt<|S.sq<|Q.rg<|Q.mv U<|Q.bi U U U<|Q.nt<|S.cF U (decide_eq_false (by omega))<|UW.skip<|UQ.then<|Q.rg<|Q.fa dJ U<|Q.lc 5 dB U U U<|Q.mv U<|Q.lc 4 dW U U U<|S.dd<|D.lit dQ U U (bz U) λp32=>S.dd<|D.co (.cons 2 U (.cons 0 U .nil)) U U (λG hD=>zg (cutV (.mk k n t ks vs)).ks key i (by omega) hkl _ _ G hD)<|?_
 rintro _ _ ⟨pk,rfl,rfl⟩
 refine Q.fa dJ U<|S.s<|D.st 5 dB U U U U U U U U λ_=>Q.nt<|S.rg<|Q.fa bU U<|Q.lc 5 dR U U U<|Q.mv U<|S.qu (Z.bd [] gU U U U U U U)<|S.dd<|D.lit jw U U (bz U) λp39=>S.dd<|D.co (.cons 2 U (.cons 0 U .nil)) U U (λG hD=>zh (cutV (.mk k n t ks vs)).vs zeroV i (by omega) hvl _ _ G hD)<|?_
 rintro _ _ ⟨pv,rfl,rfl⟩
 refine Q.fa bU U<|S.s<|D.st 5 dR U U U U U U U U λ_=>Q.nt<|S.sq<|?_
 refine' UW.bG (by kernel_rfl) [0,1,0,0,8,31,63] [some 42,some 43,some 44,some 45,some 46,some 47,none] [some (42,_),some (43,_),some (44,_),some (45,_),some (46,_),some (47,_),none] [6] [1,3] U (by decide) (by decide) (M.free (by decide) U U ?Pt (M.held (by decide) U U ?Pv (M.free (by decide) U U ?Pw (M.held (by decide) U U ?Px (M.free (by decide) U U ?Py (M.free (by decide) U U ?Pz (M.skip M.nil))))))) ?q0_k
 case Pt=>(intro _;exact Z.fa bU rfl)
 case Pv=>exact Z.dM 5 dR rfl rfl rfl
 case Pw=>(intro _;exact Z.mv rfl)
 case Px=>exact Z.bW 3 av rfl rfl (Y _)
 case Py=>(intro _;exact Z.call rfl rfl (λ_=>jF (kT y hy _)))
 case Pz=>(intro _;exact Z.io bP rfl rfl (by omega) (by omega))
 refine CH.bX U U<|D.str 0 av U U U (by omega) U U (by exact az _) (Y _) (jR _) λ_=>?_
 refine CH.nil<|?_
 simp only[app,bS]
 refine UQ.then<|Q.rg<|S.qu (Z.bW 5 av U U U)<|S.s<|D.st 2 av U U U U U U U U λ_=>Q.nt<|UW.ret<|?_
 exact bR [_,_] (λhd=>aX (k:=2) hd U U U gQ gT) (.cons_cons _ (.cons_cons _ (List.nil_sublist _))) λhd=>⟨_,hd,rfl,_,_,_,_,by(rw[vk,vn,vt,zl,Af,dA _ _ _ hi,dA _ _ _ hi2])<;>rfl,rfl,by rw[zl,List.length_map];exact Nat.le_refl _,by rw[zl];exact List.take_of_length_le (by rw[List.length_map];exact Nat.le_refl _),by rw[Af,List.length_set,aS,dA _ _ _ hi2,dA _ _ _ hi2];exact Nat.le_refl _,by rw[List.take_of_length_le (by rw[Af,List.length_set,aS,dA _ _ _ hi2,dA _ _ _ hi2];exact Nat.le_refl _),Nat.zero_add,Int.toNat_natCast,<-Ch,IM _ _ _ _ hi2]<;>rfl⟩
theorem with_d(x:V)(hx:Fits x)(key:ByteArray)(y:V)(hy:Fits y)(H:Hp)(hk:¬x.k=5):
 au Tryz.prog 77 [.agg (aC x),.v (.string key),.agg (aC y)] H (M8 H (.mk 5 0 ⟨#[]⟩ [key] [y])):=by
 obtain⟨k,n,t,ks,vs⟩:=x
 have hf:Fits (.mk 5 0 ⟨#[]⟩ [] []):=.mk _ _ _ _ _ (by decide) (by decide) (by simp)
 have hcf:=hf.cut
 have hkl:=hcf.XG
 have hvl:=hcf.Xn
 have XI:=wS (.mk 5 0 ⟨#[]⟩ [] [])
 have hev:=aS (cutV (.mk 5 0 ⟨#[]⟩ [] [])).vs
 have hek:((cutV (.mk 5 0 ⟨#[]⟩ [] [])).ks.map encS).length=(cutV (.mk 5 0 ⟨#[]⟩ [] [])).ks.length:=List.length_map ..
 simp only[V.k] at hk
 have hp:pl (.mk 5 0 ⟨#[]⟩ [] []) key=none:=rfl
 have OZ:(cutV (.mk 5 0 ⟨#[]⟩ [] [])).ks.findIdx? (λk=>!(eD k key))=none:=rfl
 have hi:(cutV (.mk 5 0 ⟨#[]⟩ [] [])).ks.length<=(cutV (.mk 5 0 ⟨#[]⟩ [] [])).ks.length:=Nat.le_refl _
 have hi2:(cutV (.mk 5 0 ⟨#[]⟩ [] [])).ks.length<=(cutV (.mk 5 0 ⟨#[]⟩ [] [])).vs.length:=Nat.le_of_eq XI
 have hev2:=(aS (eB (cutV (.mk 5 0 ⟨#[]⟩ [] [])).vs (cutV (.mk 5 0 ⟨#[]⟩ [] [])).ks.length zeroV)).trans (dA _ _ _ hi2)
 refine aF (n:=49) (H0:=H) (I:=[]) Tryz.func77 (by kernel_rfl) U (by rw[Tryz.ntmps77];rfl) .nil<|?_
 refine Q.rg<|S.dd<|D.box U U U λp3=>S.dd<|D.box U U U λp4=>S.dd<|D.box U U (by exact az _) λp5=>?_
 refine S.dd<|D.al z26 U U U λp6=>Q.nt<|S.sq<|Q.rg<|Q.fa bT U<|Q.lc 3 fB U U U<|Q.bi U U U<|Q.nt<|S.cT U (rP (by omega))<|S.rg<|S.qu (Z.bd [0] gU U U U U U U)<|S.s<|D.st 3 av U U U U U U U U λ_=>Q.nt<|Q.rg<|S.qu (Z.bW 3 av U U U)<|Q.lc 2 dW U U U<|S.qu (Z.call U U (λ_=>Fq hf hp _))<|Q.as U<|Q.nt<|Q.rg<|S.qu (Z.bW 3 av U U U)<|S.dd<|D.cn U U (λ_=>wR (.mk 5 0 ⟨#[]⟩ [] []) hf _)<|?_
 rintro _ _ ⟨pi,pj,rfl,rfl⟩
 refine S.s<|D.st 5 av U U U U U U U U λ_=>Q.nt<|S.sq<|Q.rg<|Q.mv U<|Q.bi U U U<|Q.nt<|S.cT U (decide_eq_true (by omega))<|Q.rg<|Q.fa dJ U<|Q.lc 5 dB U U U<|S.qu (Z.mf U)<|S.qu (Z.cbw [(p4,.box 9 [.v (.string key)])] (.cons _ (.cons _ (.cons _ (.cons _ (.cons_cons _ (List.nil_sublist _)))))) U U U (.own (k:=1) U (by omega) (sH _ _ hek) (.keep .nil)) (λhd=>IP hkl OZ p4 _ (hd.at_ (k:=0) U)))<|Q.as U<|Q.nt<|S.sq<|Q.rg<|Q.mv U<|Q.bi U U U<|Q.nt<|S.cT U (decide_eq_true (by omega))<|S.rg<|Q.fa dJ U<|Q.lc 5 dB U U U<|S.qu (Z.OX aZ U)<|Q.as U<|Q.nt<|Q.rg<|Q.fa dJ U<|Q.lc 5 dB U U U<|Q.mv U<|Q.lc 4 dW U U U<|S.dd<|D.lit dQ U U (bz U) λp32=>S.dd<|D.co (.cons 2 U (.cons 0 U .nil)) U U (λG hD=>zg (cutV (.mk 5 0 ⟨#[]⟩ [] [])).ks key (cutV (.mk 5 0 ⟨#[]⟩ [] [])).ks.length (by omega) hkl _ _ G hD)<|?_
 rintro _ _ ⟨pk,rfl,rfl⟩
 refine Q.fa dJ U<|S.s<|D.st 5 dB U U U U U U U U λ_=>Q.nt<|S.rg<|Q.fa bU U<|Q.lc 5 dR U U U<|Q.mv U<|S.qu (Z.bd [] gU U U U U U U)<|S.dd<|D.lit jw U U (bz U) λp39=>S.dd<|D.co (.cons 2 U (.cons 0 U .nil)) U U (λG hD=>zh (cutV (.mk 5 0 ⟨#[]⟩ [] [])).vs zeroV (cutV (.mk 5 0 ⟨#[]⟩ [] [])).ks.length (by omega) hvl _ _ G hD)<|?_
 rintro _ _ ⟨pv,rfl,rfl⟩
 refine Q.fa bU U<|S.s<|D.st 5 dR U U U U U U U U λ_=>Q.nt<|S.sq<|?_
 refine' UW.bG (by kernel_rfl) [0,1,0,0,8,31,63] [some 42,some 43,some 44,some 45,some 46,some 47,none] [some (42,_),some (43,_),some (44,_),some (45,_),some (46,_),some (47,_),none] [6] [1,3] U (by decide) (by decide) (M.free (by decide) U U ?Pt (M.held (by decide) U U ?Pv (M.free (by decide) U U ?Pw (M.held (by decide) U U ?Px (M.free (by decide) U U ?Py (M.free (by decide) U U ?Pz (M.skip M.nil))))))) ?q0_k
 case Pt=>(intro _;exact Z.fa bU rfl)
 case Pv=>exact Z.dM 5 dR rfl rfl rfl
 case Pw=>(intro _;exact Z.mv rfl)
 case Px=>exact Z.bW 3 av rfl rfl (Y _)
 case Py=>(intro _;exact Z.call rfl rfl (λ_=>jF (kT y hy _)))
 case Pz=>(intro _;exact Z.io bP rfl rfl (by omega) (by omega))
 refine CH.bX U U<|D.str 0 av U U U (by omega) U U (by exact az _) (Y _) (jR _) λ_=>?_
 refine CH.nil<|?_
 simp only[app,bS]
 refine UQ.then<|Q.rg<|S.qu (Z.bW 5 av U U U)<|S.s<|D.st 2 av U U U U U U U U λ_=>Q.nt<|UW.ret<|?_
 exact bR [_,_] (λhd=>aX (k:=2) hd U U U gQ gT) (.cons_cons _ (.cons_cons _ (List.nil_sublist _))) λhd=>⟨_,hd,rfl,_,_,_,_,rfl,rfl,Nat.le_refl _,rfl,Nat.le_refl _,rfl⟩
theorem Vm(x:V)(hx:Fits x)(key:ByteArray)(y:V)(hy:Fits y)(H:Hp):
 au Tryz.prog 77 [.agg (aC x),.v (.string key),.agg (aC y)] H (M8 H (aQ x key y)):=by
 by_cases hk:x.k=5
 ·have e1:fw x=x:=by unfold fw;rw[if_pos hk]
  unfold aQ
  rw[e1]
  cases hp:pl x key with
  |some i=>exact with_a x hx key y hy H i hk hp
  |none=>
   cases OZ:(cutV x).ks.findIdx? (λk=>!(eD k key)) with
   |none=>
    have:=with_b x hx key y hy H hk hp OZ
    have e2:bY (cutV x).ks key=(cutV x).ks.length:=by unfold bY uD;rw[OZ];rfl
    rw[<-e2] at this;exact this
   |some i=>
    have:=with_c x hx key y hy H i hk hp OZ
    have e2:bY (cutV x).ks key=i:=by
     unfold bY uD;rw[OZ]
     show(if (i:Int)<0 then _ else(i:Int).toNat)=i
     rw[if_neg (by omega)];rfl
    rw[<-e2] at this;exact this
 ·have e1:fw x=.mk 5 0 ⟨#[]⟩ [] []:=by unfold fw;rw[if_neg hk]
  unfold aQ
  rw[e1]
  exact with_d x hx key y hy H hk
theorem xZ(x:V)(hx:Fits x)(key:ByteArray)(y:V)(hy:Fits y)(H:Hp):
 au Tryz.prog 77 [.agg (aC x),.v (.string key),.agg (aC y)] H (bB H (.agg (aC (aQ x key y)))):=xW (Vm x hx key y hy H)
def AP(x:V):Bool:=if x.k=1 then(x.n==0||x.n==1) else if x.k=2 then(decide (-9007199254740991<=x.n)&&decide (x.n<=9007199254740991)) else(x.n==0)
def rT(ks:List ByteArray)(k:Nat):Bool:=decide (RN (ks.getD k ⟨#[]⟩)<0)&&(decide (k=0)||decide (Fj (ks.getD (k-1) ⟨#[]⟩) (ks.getD k ⟨#[]⟩)<0))
def uE(x:V):Bool:=if x.k=5 then(List.range x.ks.length).all (rT x.ks)&&((x.ks.length:Int)==(x.vs.length:Int)) else((x.ks.length:Int)==0)
theorem Nc(l:List ByteArray)(k:Nat)(h:k<l.length)(h0:0<k):(l.map encS)[((k:Int)-1).toNat]? =some (encS (l.getD (k-1) ⟨#[]⟩)):=by
 have e:((k:Int)-1).toNat=k-1:=by omega
 rw[e,eY l (k-1) (by omega),getD_at (by omega)]
mutual
def dS:V->Bool
 | .mk k n t ks vs=>(decide (0<=k)&&decide (k<=5)&&AP (.mk k n t ks vs)&&uE (.mk k n t ks vs))&&!(!(t.toList==(⟨#[]⟩:ByteArray).toList)&&(!(k==3)||decide (0<=RN t)))&&!(decide (k<4)&&decide ((0:Int)<vs.length))&&nW vs
def nW:List V->Bool
 |[]=>true
 |x::r=>dS x&&nW r
end
theorem zn:∀l:List V,nW l=!l.any (λx=>!dS x)
 |[]=>rfl
 |x::r=>by rw[nW,zn r];simp
def fu(n:Int):V:=.mk 2 n ⟨#[]⟩ [] []
def dz(s:ByteArray):V:=.mk 3 0 s [] []
theorem qA(s:ByteArray)(H:Hp):au Tryz.prog 76 [.v (.string s)] H (bB H (.agg (aC (dz s)))):=by
 refine aF (n:=5) (H0:=H) (I:=[]) Tryz.func76 (by kernel_rfl) U (by rw[Tryz.ntmps76];rfl) .nil<|?_
 refine Q.rg<|US.oK U (by decide) U U z26 U U U U λp2=>Q.nt<|Q.rg<|Q.mv U<|US.Ca [0,2] U (by decide) U U gU U U U U U U U U<|US.dw U U U av U (k:=0) U (by rfl) U U (by rfl) (by rfl) U<|?_
 refine Q.nt<|UW.ret<|?_
 exact bR [] (λhd=>aX (k:=0) hd U U U gQ gT) (by simp) λhd=>⟨rfl,rfl⟩
theorem PD(l:List ByteArray)(k:Nat)(h:k<l.length):(bu (l.map dz)).take k++[aC (dz l[k])]=(bu (l.map dz)).take (k+1):=by
 have:=Fb (l.map dz) k (by simpa using h)
 simpa using this
def fH(l:List ByteArray):V:=.mk 4 0 ⟨#[]⟩ [] (l.map dz)
def mh{α β:Type}(f:α->β->Bool):List α->List β->Bool
 |[],[]=>true
 |a::l,b::r=>f a b&&mh f l r
 |_,_=>false
theorem nI{α β:Type}{f:α->β->Bool}:∀{l:List α} {r:List β},l.length=r.length->(∀(i:Nat) (h:i<l.length) (h':i<r.length),f l[i] r[i]=true)->mh f l r=true
 |[],[],_,_=>rfl
 |a::l,b::r,hl,h=>by
  rw[mh,Bool.and_eq_true]
  exact⟨h 0 (by simp) (by simp),nI (by simpa using hl) (λi h1 h2=>h (i+1) (by simpa using h1) (by simpa using h2))⟩
 |[],_::_,hl,_=>by simp at hl
 |_::_,[],hl,_=>by simp at hl
theorem wT{α β:Type}{f:α->β->Bool}:∀{l:List α} {r:List β},l.length≠r.length->mh f l r=false
 |[],[],h=>by simp at h
 |a::l,b::r,h=>by rw[mh,wT (by simpa using h)];simp
 |[],_::_,_=>rfl
 |_::_,[],_=>rfl
theorem AQ{α β:Type}{f:α->β->Bool}:∀{l:List α} {r:List β} (i:Nat) (h:i<l.length) (h':i<r.length),f l[i] r[i]=false->mh f l r=false
 |a::l,b::r,0,_,_,hf=>by
  have:f a b=false:=hf
  rw[mh,this];rfl
 |a::l,b::r,i+1,h,h',hf=>by rw[mh,AQ i (by simpa using h) (by simpa using h') (by simpa using hf)];simp
 |[],_,_,h,_,_=>by simp at h
 |_::_,[],_,_,h',_=>by simp at h'
def uF(a b:ByteArray):Bool:=a.toList==b.toList
theorem zo(l r:List ByteArray)(hl:l.length<=1000000)(H:Hp):au Tryz.prog 80 [strs l,strs r] H (bB H (.v (.bool (mh uF l r)))):=by
 have yE:(l.map encS).length=l.length:=List.length_map ..
 have hmr:(r.map encS).length=r.length:=List.length_map ..
 refine aF (n:=26) (H0:=H) (I:=[]) Tryz.func80 (by kernel_rfl) U (by rw[Tryz.ntmps80];rfl) .nil<|?_
 refine Q.rg<|Q.as U<|Q.nt<|UW.seq<|Q.rg<|?_
 by_cases hlen:(((l.map encS).length:Nat):Int)=((r.map encS).length:Nat)
 ·refine Q.mv U<|US.gq U (by decide) U U aZ U<|Q.mv U<|US.gq U (by decide) U U aZ U<|US.aA U (by decide) U U U U (r:=.bool false) (by simp only[eT,hlen];simp)<|?_
  refine Q.nt<|UW.cond U (λh=>absurd h (by simp)) λ_=>?_
  refine UW.skip<|UQ.then<|UW.seq<|Q.rg<|Q.mv U<|US.gq U (by decide) U U aZ U<|Q.mv U<|Q.nt<|UW.block<|UW.loop (λk:Nat=>[(13,.v (.int .i64 (k:Int))),(11,strs l),(12,.v (.int .i64 ((l.map encS).length:Int))),(0,strs l),(1,strs r)]) (λ_=>[]) (λk=>k<=l.length/\∀(j:Nat) (h:j<l.length) (h':j<r.length),j<k->uF l[j] r[j]=true) (λk=>l.length-k) 0 ⟨Nat.zero_le _,λj _ _ h=>absurd h (by omega)⟩ ⟨rfl,rfl,rfl,rfl,rfl,trivial⟩ (.refl _)<|?_
  rintro k ⟨hk,hj⟩
  refine Q.rg<|Q.bi U U U<|Q.nt<|UW.seq<|?_
  refine UW.cond U (λh=>?_) (λh=>?_)
  ·have h:=of_decide_eq_true h
   have hlt:k<l.length:=by omega
   have Tg:k<r.length:=by omega
   refine UW.skip<|UQ.then<|UW.seq<|UW.block<|Q.rg<|Q.mv U<|Q.as U<|Q.nt<|UW.seq<|?_
   refine' UW.bG (by kernel_rfl) [0,0,3,7,0,0,48,112,255] [some 16,some 17,some 18,some 19,some 20,some 21,some 22,some 23,some 24] [some (16,_),some (17,_),some (18,_),some (19,_),some (20,_),some (21,_),some (22,_),some (23,_),some (24,_)] [] [3,7] U (by decide) (by decide) (M.free (by decide) U U ?q0 (M.free (by decide) U U ?q1 (M.free (by decide) U U ?q2 (M.held (by decide) U U ?q3 (M.free (by decide) U U ?q4 (M.free (by decide) U U ?q5 (M.free (by decide) U U ?q6 (M.held (by decide) U U ?q7 (M.free (by decide) U U ?q8 M.nil))))))))) ?k
   case q0=>exact QF.move rfl rfl rfl
   case q1=>exact QF.move rfl rfl rfl
   case q2=>exact QF.bM rfl rfl aZ rfl rfl (by omega) (eY l k hlt) rfl
   case q3=>exact QS.bI rfl rfl rfl dW
   case q4=>exact QF.move rfl rfl rfl
   case q5=>exact QF.move rfl rfl rfl
   case q6=>exact QF.bM rfl rfl aZ rfl rfl (by omega) (eY r k Tg) rfl
   case q7=>exact QS.bI rfl rfl rfl dW
   case q8=>exact QF.jl rfl rfl rfl rfl rfl
   refine CH.nil<|?_
   simp only[app,bS]
   refine UQ.then<|?_
   refine UW.cond U (λhb=>?_) (λhb=>?_)
   ·refine Q.rg<|Q.as U<|Q.nt<|UW.ret<|UQ.aI<|UQ.ax<|UQ.ax<|UQ.aI<|UQ.ax<|?_
    refine bR [] (λ_=>ak U U) (.refl _) λhd=>⟨?_,rfl⟩
    rw[AQ k hlt Tg (by unfold uF;simpa using hb)]
   ·refine UW.skip<|UQ.aB<|UQ.then<|UW.region<|US.add U (by decide) U U U U (IntWalk.i64_in _ (by omega))<|Q.mv U<|?_
    exact US.round (a':=k+1) ⟨by omega,λj h3 h4 h5=>by
     by_cases hjk:j=k
     ·subst hjk;unfold uF;simpa using hb
     ·exact hj j h3 h4 (by omega)⟩ (by omega) ⟨rfl,rfl,rfl,rfl,rfl,trivial⟩ (.refl _)
  ·have h:=of_decide_eq_false h
   refine UW.exit<|UQ.pass<|UQ.pass<|UQ.here<|UQ.then<|Q.rg<|Q.as U<|Q.nt<|UW.ret<|?_
   refine bR [] (λ_=>ak U U) (.refl _) λhd=>⟨?_,rfl⟩
   rw[nI (by omega) (λi h1 h2=>hj i h1 h2 (by omega))]
 ·refine Q.mv U<|US.gq U (by decide) U U aZ U<|Q.mv U<|US.gq U (by decide) U U aZ U<|US.aA U (by decide) U U U U (r:=.bool true) (by simp only[eT];simp[hlen];omega)<|?_
  refine Q.nt<|?_
  refine UW.cond U (λ_=>?_) (λh=>absurd h (by simp))
  refine Q.rg<|Q.as U<|Q.nt<|UW.ret<|UQ.ax<|?_
  refine bR [] (λ_=>ak U U) (.refl _) λhd=>⟨?_,rfl⟩
  rw[wT (by omega)]
theorem Fs(l r:List V)(f:Nat)(g:V->V->Bool)(hl:l.length<=1000000)(hc:∀x∈l,∀y∈r,∀H,au Tryz.prog f [.agg (aC x),.agg (aC y)] H (bB H (.v (.bool (g x y)))))(H:Hp):
 au Tryz.prog 116 [.sl (bu l),.sl (bu r),.iF f []] H (bB H (.v (.bool (mh g l r)))):=by
 have yE:=aS l
 have hmr:=aS r
 refine aF (n:=32) (H0:=H) (I:=[]) Tryz.func116 (by kernel_rfl) U (by rw[Tryz.ntmps116];rfl) .nil<|?_
 refine Q.rg<|Q.as U<|Q.nt<|UW.seq<|Q.rg<|?_
 by_cases hlen:(((bu l).length:Nat):Int)=((bu r).length:Nat)
 ·refine Q.mv U<|US.gq U (by decide) U U bP U<|Q.mv U<|US.gq U (by decide) U U bP U<|US.aA U (by decide) U U U U (r:=.bool false) (by simp only[eT,hlen];simp)<|?_
  refine Q.nt<|UW.cond U (λh=>absurd h (by simp)) λ_=>?_
  refine UW.skip<|UQ.then<|UW.seq<|Q.rg<|Q.mv U<|US.gq U (by decide) U U bP U<|Q.mv U<|Q.nt<|UW.block<|UW.loop (λk:Nat=>[(17,.v (.int .i64 (k:Int))),(15,.sl (bu l)),(16,.v (.int .i64 ((bu l).length:Int))),(0,.sl (bu l)),(1,.sl (bu r)),(2,.iF f [])]) (λ_=>[]) (λk=>k<=l.length/\∀(j:Nat) (h:j<l.length) (h':j<r.length),j<k->g l[j] r[j]=true) (λk=>l.length-k) 0 ⟨Nat.zero_le _,λj _ _ h=>absurd h (by omega)⟩ ⟨rfl,rfl,rfl,rfl,rfl,rfl,trivial⟩ (.refl _)<|?_
  rintro k ⟨hk,hj⟩
  refine Q.rg<|Q.bi U U U<|Q.nt<|UW.seq<|?_
  refine UW.cond U (λh=>?_) (λh=>?_)
  ·have h:=of_decide_eq_true h
   have hlt:k<l.length:=by omega
   have Tg:k<r.length:=by omega
   refine UW.skip<|UQ.then<|UW.seq<|UW.block<|Q.rg<|Q.mv U<|US.bM U (by decide) U U bP U U (by omega) (gH l k hlt) (Y _)<|US.gp U (by decide) U U U av (by exact Y _)<|?_
   refine US.oK U (by decide) U U z26 U U U U λp8=>Q.as U<|US.dw U U U av U (k:=0) U (by rfl) U U (by exact az _) (by exact Y _) U<|?_
   refine Q.nt<|Q.rg<|Q.mv U<|Q.mv U<|US.bM U (by decide) U U bP U U (by omega) (gH r k Tg) (Y _)<|US.gp U (by decide) U U U av (by exact Y _)<|?_
   refine US.oK U (by decide) U U z26 U U U U λp9=>US.dw U U U av U (k:=0) U (by rfl) U U (by exact az _) (by exact Y _) U<|?_
   refine Q.nt<|Q.rg<|Q.mv U<|US.dV U (by decide) U U av U (k:=1) U (by exact Y _)<|?_
   refine US.dV U (by decide) U U av U (k:=0) U (by exact Y _)<|?_
   refine US.dL U (by decide) U U U U (λ_=>hc _ (List.getElem_mem hlt) _ (List.getElem_mem Tg) _)<|US.not U (by decide) U U U<|Q.nt<|?_
   refine UW.cond U (λhb=>?_) (λhb=>?_)
   ·refine Q.rg<|Q.as U<|Q.nt<|UW.ret<|UQ.aI<|UQ.ax<|UQ.ax<|UQ.aI<|UQ.ax<|?_
    refine bR [] (λ_=>ak U U) (by simp) λhd=>⟨?_,rfl⟩
    rw[AQ k hlt Tg (by simpa using hb)]
   ·refine UW.skip<|UQ.aB<|UQ.then<|UW.region<|US.add U (by decide) U U U U (IntWalk.i64_in _ (by omega))<|Q.mv U<|?_
    exact US.round (a':=k+1) ⟨by omega,λj h3 h4 h5=>by
     by_cases hjk:j=k
     ·subst hjk;simpa using hb
     ·exact hj j h3 h4 (by omega)⟩ (by omega) ⟨rfl,rfl,rfl,rfl,rfl,rfl,trivial⟩ (by simp)
  ·have h:=of_decide_eq_false h
   refine UW.exit<|UQ.pass<|UQ.pass<|UQ.here<|UQ.then<|Q.rg<|Q.as U<|Q.nt<|UW.ret<|?_
   refine bR [] (λ_=>ak U U) (.refl _) λhd=>⟨?_,rfl⟩
   rw[nI (by omega) (λi h1 h2=>hj i h1 h2 (by omega))]
 ·refine Q.mv U<|US.gq U (by decide) U U bP U<|Q.mv U<|US.gq U (by decide) U U bP U<|US.aA U (by decide) U U U U (r:=.bool true) (by simp only[eT];(simp[hlen];done))<|?_
  refine Q.nt<|?_
  refine UW.cond U (λ_=>?_) (λh=>absurd h (by simp))
  refine Q.rg<|Q.as U<|Q.nt<|UW.ret<|UQ.ax<|?_
  refine bR [] (λ_=>ak U U) (.refl _) λhd=>⟨?_,rfl⟩
  rw[wT (by omega)]
mutual
def gV:V->V->Bool
 | .mk k n t ks vs,.mk k' n' t' ks' vs'=>(k==k')&&((n==n')&&(uF t t'&&(mh uF ks ks'&&wU vs vs')))
def wU:List V->List V->Bool
 |[],[]=>true
 |x::l,y::r=>gV x y&&wU l r
 |[],_::_=>false
 |_::_,[]=>false
end
theorem pR:∀l r:List V,wU l r=mh gV l r
 |[],[]=>rfl
 |x::l,y::r=>by rw[wU,pR l r];rfl
 |[],_::_=>rfl
 |_::_,[]=>rfl
theorem Dk(l r:List ByteArray)(hl:l.length<=1000000)(b:Bool)(hb:mh uF l r=b)(H:Hp):au Tryz.prog 80 [strs l,strs r] H (bB H (.v (.bool b))):=by rw[<-hb];exact zo l r hl H
theorem IQ(x:V)(hx:Fits x):∀(y:V) (H:Hp),au Tryz.prog 81 [.agg (aC x),.agg (aC y)] H (bB H (.v (.bool (gV x y)))):=by
 induction hx with
 |mk k n t ks vs h1 h2 h ih=>
 rintro⟨k',n',t',ks',vs'⟩ H
 refine aF (n:=38) (H0:=H) (I:=[]) Tryz.func81 (by kernel_rfl) U (by rw[Tryz.ntmps81];rfl) .nil<|?_
 refine Q.rg<|US.box U (by decide) U U U U (by rfl) λp2=>?_
 refine US.box U (by decide) U U U U (by rfl) λp3=>?_
 refine Q.as U<|Q.nt<|Q.rg<|?_
 by_cases hk:k=k'
 ·by_cases hn:n=n'
  ·cases ht:uF t t' with
   |true=>
    cases hks:mh uF ks ks' with
    |true=>
     refine US.fieldAddr U (by decide) U U U bT<|Q.lc 1 fB U U U<|US.fieldAddr U (by decide) U U U bT<|Q.lc 0 fB U U U<|US.aA U (by decide) U U U U (r:=.bool true) (by(simp[eT,fe,hk];done))<|?_
     refine Q.mv U<|?_
     (refine US.on U U (by decide) U ?_;refine US.fieldAddr U (by decide) U U U jf ?_)
     (refine US.on U U (by decide) U ?_;refine US.aJ U (by decide) U U lg U (k:=1) U U ?_)
     (refine US.on U U (by decide) U ?_;refine US.fieldAddr U (by decide) U U U jf ?_)
     (refine US.on U U (by decide) U ?_;refine US.aJ U (by decide) U U lg U (k:=0) U U ?_)
     (refine US.on U U (by decide) U ?_;refine US.aA U (by decide) U U U U (r:=.bool true) (by(simp[eT,fe,hn];done)) ?_)
     refine Q.pk U U<|Q.mv U<|?_
     (refine US.on U U (by decide) U ?_;refine US.fieldAddr U (by decide) U U U kY ?_)
     (refine US.on U U (by decide) U ?_;refine US.aJ U (by decide) U U dW U (k:=1) U U ?_)
     (refine US.on U U (by decide) U ?_;refine US.fieldAddr U (by decide) U U U kY ?_)
     (refine US.on U U (by decide) U ?_;refine US.aJ U (by decide) U U dW U (k:=0) U U ?_)
     (refine US.on U U (by decide) U ?_;refine US.jl U (by decide) U U U U (r:=true) (congrArg some ht) ?_)
     refine Q.pk U U<|Q.mv U<|?_
     (refine US.on U U (by decide) U ?_;refine US.fieldAddr U (by decide) U U U dJ ?_)
     (refine US.on U U (by decide) U ?_;refine US.aJ U (by decide) U U dB U (k:=1) U U ?_)
     (refine US.on U U (by decide) U ?_;refine US.fieldAddr U (by decide) U U U dJ ?_)
     (refine US.on U U (by decide) U ?_;refine US.aJ U (by decide) U U dB U (k:=0) U U ?_)
     (refine US.on U U (by decide) U ?_;refine US.dL U (by decide) U U U U (λ_=>Dk ks ks' h1 true hks _) ?_)
     refine Q.pk U U<|Q.mv U<|?_
     (refine US.on U U (by decide) U ?_;refine US.fieldAddr U (by decide) U U U bU ?_)
     (refine US.on U U (by decide) U ?_;refine US.aJ U (by decide) U U dR U (k:=1) U U ?_)
     (refine US.on U U (by decide) U ?_;refine US.fieldAddr U (by decide) U U U bU ?_)
     (refine US.on U U (by decide) U ?_;refine US.aJ U (by decide) U U dR U (k:=0) U U ?_)
     (refine US.on U U (by decide) U ?_;refine US.dL U (by decide) U U U U (λ_=>Fs vs vs' _ gV h2 (λx hx y _ H=>ih x hx y H) _) ?_)
     refine Q.pk U U<|Q.as U<|Q.nt<|UW.ret<|?_
     refine bR [] (λ_=>ak U U) (by simp) λhd=>⟨?_,rfl⟩
     rw[gV,ht,hks,pR,hk,hn];simp
    |false=>
     refine US.fieldAddr U (by decide) U U U bT<|Q.lc 1 fB U U U<|US.fieldAddr U (by decide) U U U bT<|Q.lc 0 fB U U U<|US.aA U (by decide) U U U U (r:=.bool true) (by(simp[eT,fe,hk];done))<|?_
     refine Q.mv U<|?_
     (refine US.on U U (by decide) U ?_;refine US.fieldAddr U (by decide) U U U jf ?_)
     (refine US.on U U (by decide) U ?_;refine US.aJ U (by decide) U U lg U (k:=1) U U ?_)
     (refine US.on U U (by decide) U ?_;refine US.fieldAddr U (by decide) U U U jf ?_)
     (refine US.on U U (by decide) U ?_;refine US.aJ U (by decide) U U lg U (k:=0) U U ?_)
     (refine US.on U U (by decide) U ?_;refine US.aA U (by decide) U U U U (r:=.bool true) (by(simp[eT,fe,hn];done)) ?_)
     refine Q.pk U U<|Q.mv U<|?_
     (refine US.on U U (by decide) U ?_;refine US.fieldAddr U (by decide) U U U kY ?_)
     (refine US.on U U (by decide) U ?_;refine US.aJ U (by decide) U U dW U (k:=1) U U ?_)
     (refine US.on U U (by decide) U ?_;refine US.fieldAddr U (by decide) U U U kY ?_)
     (refine US.on U U (by decide) U ?_;refine US.aJ U (by decide) U U dW U (k:=0) U U ?_)
     (refine US.on U U (by decide) U ?_;refine US.jl U (by decide) U U U U (r:=true) (congrArg some ht) ?_)
     refine Q.pk U U<|Q.mv U<|?_
     (refine US.on U U (by decide) U ?_;refine US.fieldAddr U (by decide) U U U dJ ?_)
     (refine US.on U U (by decide) U ?_;refine US.aJ U (by decide) U U dB U (k:=1) U U ?_)
     (refine US.on U U (by decide) U ?_;refine US.fieldAddr U (by decide) U U U dJ ?_)
     (refine US.on U U (by decide) U ?_;refine US.aJ U (by decide) U U dB U (k:=0) U U ?_)
     (refine US.on U U (by decide) U ?_;refine US.dL U (by decide) U U U U (λ_=>Dk ks ks' h1 false hks _) ?_)
     refine Q.pk U U<|Q.mv U<|Q.of<|Q.of<|Q.of<|Q.of<|Q.of<|Q.pk U U<|Q.as U<|Q.nt<|UW.ret<|?_
     refine bR [] (λ_=>ak U U) (by simp) λhd=>⟨?_,rfl⟩
     rw[gV,hks];simp
   |false=>
    refine US.fieldAddr U (by decide) U U U bT<|Q.lc 1 fB U U U<|US.fieldAddr U (by decide) U U U bT<|Q.lc 0 fB U U U<|US.aA U (by decide) U U U U (r:=.bool true) (by(simp[eT,fe,hk];done))<|?_
    refine Q.mv U<|?_
    (refine US.on U U (by decide) U ?_;refine US.fieldAddr U (by decide) U U U jf ?_)
    (refine US.on U U (by decide) U ?_;refine US.aJ U (by decide) U U lg U (k:=1) U U ?_)
    (refine US.on U U (by decide) U ?_;refine US.fieldAddr U (by decide) U U U jf ?_)
    (refine US.on U U (by decide) U ?_;refine US.aJ U (by decide) U U lg U (k:=0) U U ?_)
    (refine US.on U U (by decide) U ?_;refine US.aA U (by decide) U U U U (r:=.bool true) (by(simp[eT,fe,hn];done)) ?_)
    refine Q.pk U U<|Q.mv U<|?_
    (refine US.on U U (by decide) U ?_;refine US.fieldAddr U (by decide) U U U kY ?_)
    (refine US.on U U (by decide) U ?_;refine US.aJ U (by decide) U U dW U (k:=1) U U ?_)
    (refine US.on U U (by decide) U ?_;refine US.fieldAddr U (by decide) U U U kY ?_)
    (refine US.on U U (by decide) U ?_;refine US.aJ U (by decide) U U dW U (k:=0) U U ?_)
    (refine US.on U U (by decide) U ?_;refine US.jl U (by decide) U U U U (r:=false) (congrArg some ht) ?_)
    refine Q.pk U U<|Q.mv U<|Q.of<|Q.of<|Q.of<|Q.of<|Q.of<|Q.pk U U<|Q.mv U<|Q.of<|Q.of<|Q.of<|Q.of<|Q.of<|Q.pk U U<|Q.as U<|Q.nt<|UW.ret<|?_
    refine bR [] (λ_=>ak U U) (by simp) λhd=>⟨?_,rfl⟩
    rw[gV,ht];simp
  ·have hn2:(n==n')=false:=by simpa using hn
   refine US.fieldAddr U (by decide) U U U bT<|Q.lc 1 fB U U U<|US.fieldAddr U (by decide) U U U bT<|Q.lc 0 fB U U U<|US.aA U (by decide) U U U U (r:=.bool true) (by(simp[eT,fe,hk];done))<|?_
   refine Q.mv U<|?_
   (refine US.on U U (by decide) U ?_;refine US.fieldAddr U (by decide) U U U jf ?_)
   (refine US.on U U (by decide) U ?_;refine US.aJ U (by decide) U U lg U (k:=1) U U ?_)
   (refine US.on U U (by decide) U ?_;refine US.fieldAddr U (by decide) U U U jf ?_)
   (refine US.on U U (by decide) U ?_;refine US.aJ U (by decide) U U lg U (k:=0) U U ?_)
   (refine US.on U U (by decide) U ?_;refine US.aA U (by decide) U U U U (r:=.bool false) (by(simp[eT,fe,hn];done)) ?_)
   refine Q.pk U U<|Q.mv U<|Q.of<|Q.of<|Q.of<|Q.of<|Q.of<|Q.pk U U<|Q.mv U<|Q.of<|Q.of<|Q.of<|Q.of<|Q.of<|Q.pk U U<|Q.mv U<|Q.of<|Q.of<|Q.of<|Q.of<|Q.of<|Q.pk U U<|Q.as U<|Q.nt<|UW.ret<|?_
   refine bR [] (λ_=>ak U U) (by simp) λhd=>⟨?_,rfl⟩
   rw[gV,hn2];simp
 ·have hk2:(k==k')=false:=by simpa using hk
  refine US.fieldAddr U (by decide) U U U bT<|Q.lc 1 fB U U U<|US.fieldAddr U (by decide) U U U bT<|Q.lc 0 fB U U U<|US.aA U (by decide) U U U U (r:=.bool false) (by(simp[eT,fe,hk];done))<|?_
  refine Q.mv U<|Q.of<|Q.of<|Q.of<|Q.of<|Q.of<|Q.pk U U<|Q.mv U<|Q.of<|Q.of<|Q.of<|Q.of<|Q.of<|Q.pk U U<|Q.mv U<|Q.of<|Q.of<|Q.of<|Q.of<|Q.of<|Q.pk U U<|Q.mv U<|Q.of<|Q.of<|Q.of<|Q.of<|Q.of<|Q.pk U U<|Q.as U<|Q.nt<|UW.ret<|?_
  refine bR [] (λ_=>ak U U) (by simp) λhd=>⟨?_,rfl⟩
  rw[gV,hk2];simp
def nk(c:Int):Int:=if c<128 then 0 else if 194<=c/\c<=223 then 1 else if 224<=c/\c<=239 then 2 else if 240<=c/\c<=244 then 3 else-1
theorem Ti(c:Int)(H:Hp):au Tryz.prog 239 [.v (.int .u8 c)] H (bB H (.v (.int .i64 (nk c)))):=by
 refine aF (n:=27) (H0:=H) (I:=[]) Tryz.func239 (by kernel_rfl) U (by rw[Tryz.ntmps239];rfl) .nil<|?_
 focus
  refine Q.rg<|Q.as U<|Q.nt<|S.sq<|UW.block<|Q.rg<|Q.mv U<|Q.bi U U U<|Q.as U<|Q.nt<|?_
  refine S.cD U (λhc3=>?_) (λhc3=>?_)
  refine Q.rg<|Q.as U<|Q.nt<|UW.ret<|UQ.aI<|UQ.ax<|S.bH (λ_=>ak U U)<|?_
  focus ((congr 2;unfold nk;(repeat' split)<;>rfl);done)
  refine Q.rg<|Q.mv U<|Q.bi U U U<|Q.mv U<|?_
  refine S.tD 9 (λhc9=>?_) (λhc9=>?_)
  refine Q.on (Z.mv U)<|Q.on (Z.bi U U U)<|Q.pk U U<|Q.as U<|Q.nt<|?_
  refine S.cD U (λhc6=>?_) (λhc6=>?_)
  refine Q.rg<|Q.as U<|Q.nt<|UW.ret<|UQ.aI<|UQ.ax<|S.bH (λ_=>ak U U)<|?_
  focus ((congr 2;unfold nk;(repeat' split)<;>first|rfl|omega);done)
  refine Q.rg<|Q.mv U<|Q.bi U U U<|Q.mv U<|?_
  refine S.tD 16 (λhc16=>?_) (λhc16=>?_)
  rotate_left
  omega
  rotate_right
  refine Q.on (Z.mv U)<|Q.on (Z.bi U U U)<|Q.pk U U<|Q.as U<|Q.nt<|?_
  refine S.cD U (λhc13=>?_) (λhc13=>?_)
  refine Q.rg<|Q.as U<|Q.nt<|UW.ret<|UQ.aI<|UQ.ax<|S.bH (λ_=>ak U U)<|?_
  focus ((congr 2;unfold nk;(repeat' split)<;>first|rfl|omega);done)
  refine Q.rg<|Q.mv U<|Q.bi U U U<|Q.mv U<|?_
  refine S.tD 23 (λhc23=>?_) (λhc23=>?_)
  rotate_left
  omega
  rotate_right
  refine Q.on (Z.mv U)<|Q.on (Z.bi U U U)<|Q.pk U U<|Q.as U<|Q.nt<|?_
  refine S.cD U (λVn=>?_) (λVn=>?_)
  refine Q.rg<|Q.as U<|Q.nt<|UW.ret<|UQ.aI<|UQ.ax<|S.bH (λ_=>ak U U)<|?_
  focus ((congr 2;unfold nk;(repeat' split)<;>first|rfl|omega);done)
  refine UW.skip<|UQ.aB<|UQ.then<|Q.rg<|Q.as U<|Q.nt<|UW.ret<|S.bH (λ_=>ak U U)<|?_
  focus ((congr 2;unfold nk;(repeat' split)<;>first|rfl|omega);done)
  refine Q.of<|Q.of<|Q.pk U U<|Q.as U<|Q.nt<|S.cF U U<|Q.rg<|Q.mv U<|Q.bi U U U<|Q.mv U<|?_
  refine S.tD 16 (λhc16=>?_) (λhc16=>?_)
  omega
  refine Q.of<|Q.of<|Q.pk U U<|Q.as U<|Q.nt<|S.cF U U<|Q.rg<|Q.mv U<|Q.bi U U U<|Q.mv U<|?_
  refine S.tD 23 (λhc23=>?_) (λhc23=>?_)
  omega
  refine Q.of<|Q.of<|Q.pk U U<|Q.as U<|Q.nt<|S.cF U U<|UW.skip<|UQ.aB<|UQ.then<|Q.rg<|Q.as U<|Q.nt<|UW.ret<|S.bH (λ_=>ak U U)<|?_
  focus ((congr 2;unfold nk;(repeat' split)<;>first|rfl|omega);done)
end Go.Proofs.YtonpfomjoiaacaaGreatDoor
end
