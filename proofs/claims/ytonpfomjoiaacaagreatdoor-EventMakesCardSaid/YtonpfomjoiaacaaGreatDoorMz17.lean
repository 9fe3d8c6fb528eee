/- A part of the proof. -/
import Derived.Test.YtonpfomjoiaacaaGreatDoorMz16
import Derived.Test.YtonpfomjoiaacaaGreatDoorMz13
set_option maxRecDepth 100000
set_option maxHeartbeats 4000000
set_option linter.unusedSectionVars false
set_option linter.unusedVariables false
set_option linter.unusedSimpArgs false
section
namespace Go.Proofs.YtonpfomjoiaacaaGreatDoor
open Go Go.fT Go.RowKit
def dP(a b:ByteArray):Bool:=decide (Du a b<0)
theorem ui(l:List ByteArray)(f:Nat)(bS:List AV)(g:ByteArray->Bool)(hl:l.length<=1000000)(H:Hp)(hc:∀x∈l,∀H',Sub H H'->au Tryz.prog f ([.v (.string x)]++bS) H' (bz H' (.v (.bool (g x))))):
 au Tryz.prog 110 [strs l,.gN f bS] H (bz H (.v (.int .i64 (oi (l.findIdx? g))))):=by
 have wI:(l.map encS).length=l.length:=List.length_map ..
 refine aF (n:=19) (H0:=H) (I:=[]) Tryz.func110 (by kernel_rfl) U (by rw[Tryz.ntmps110];rfl) .nil<|?_
 refine Q.rg<|Q.as U<|Q.nt<|S.sq<|Q.rg<|Q.mv U<|S.qu (Z.fG aY U)<|Q.mv U<|Q.nt<|UW.block<|S.loop (λk:Nat=>[(8,.v (.int .i64 (k:Int))),(6,strs l),(7,.v (.int .i64 ((l.map encS).length:Int))),(0,strs l),(1,.gN f bS)]) (λ_=>[]) (λk=>k<=l.length/\∀(j:Nat) (h:j<l.length),j<k->g l[j]=false) (λk=>l.length-k) 0 ⟨Nat.zero_le _,λj _ h=>absurd h (by omega)⟩ ⟨rfl,rfl,rfl,rfl,rfl,trivial⟩ (.refl _)<|?_
 rintro k ⟨hk,hj⟩
 by_cases hlt:k<l.length
 ·focus
   refine Q.rg<|Q.bi U U U<|Q.nt<|S.sq<|S.cT U (decide_eq_true (by omega))<|UW.skip<|UQ.then<|S.sq<|UW.block<|Q.rg<|Q.mv U<|Q.as U<|Q.nt<|Q.rg<|Q.mv U<|Q.mv U<|Q.mv U<|S.qu (Z.ia aY U U (by omega) (eD _ _ (by omega)) U)<|S.qu (Z.fE ed U)<|S.qu (Z.nK U U (λhd=>hc _ (List.getElem_mem hlt) _ (ku hd)))<|Q.nt<|?_
   refine S.cB U (λhc0=>?_) (λhc0=>?_)
   refine Q.rg<|Q.mv U<|Q.as U<|Q.nt<|UW.ret<|UQ.aH<|UQ.ax<|UQ.ax<|UQ.aH<|UQ.ax<|S.bK (λ_=>ak U U)<|?_
   rotate_left
   refine UW.skip<|UQ.aB<|UQ.then<|S.rg<|S.qu (Z.add (r:=((k+1:Nat):Int)) U U (IntWalk.i64_in _ (by omega)))<|Q.mv U<|US.nil<|?_
   refine S.back _ ⟨rfl,rfl,rfl,rfl,rfl,trivial⟩ (.refl _) ?_ (by omega)
   rotate_left
  ·rw[(List.findIdx?_eq_some_iff_getElem).2 ⟨hlt,hc0,λj hjk=>by rw[hj j (by omega) hjk];simp⟩];rfl
  ·refine⟨by omega,λj h3 h4=>?_⟩
   by_cases hjk:j=k
   ·subst hjk;exact hc0
   ·exact hj j h3 (by omega)
 ·refine Q.rg<|Q.bi U U U<|Q.nt<|S.sq<|S.cF U (decide_eq_false (by omega))<|UW.exit<|UQ.pass<|UQ.pass<|UQ.here<|UQ.then<|Q.rg<|Q.as U<|Q.nt<|UW.ret<|S.bK (λ_=>ak U U)<|?_
  rw[(List.findIdx?_eq_none_iff).2 (λx hx=>by
   obtain⟨j,hj2,rfl⟩:=List.getElem_of_mem hx
   exact hj j hj2 (by omega))];rfl
theorem Dv(k key:ByteArray)(p:Nat)(H:Hp)(hp:H p=some (.box 9 [.v (.string key)])):au Tryz.prog 111 [.v (.string k),.ptr p 0] H (bz H (.v (.bool (!(dP k key))))):=by
 refine aF (n:=8) (H0:=H) (I:=[]) Tryz.func111 (by kernel_rfl) U (by rw[Tryz.ntmps111];rfl) .nil<|?_
 refine Q.rg<|Q.as U<|Q.nt<|Q.rg<|Q.mv U<|S.qu (Z.ldo (by assumption) ed U U)<|?_
 refine S.qu (Z.call U U (λ_=>QU _ _ _))<|S.qu (Z.not U)<|Q.as U<|Q.nt<|UW.ret<|S.bK (λ_=>ak U U)<|?_
 rfl
def rY(ks:List ByteArray)(key:ByteArray):Int:=oi (ks.findIdx? λk=>!(dP k key))
def bQ(ks:List ByteArray)(key:ByteArray):Nat:=if rY ks key<0 then ks.length else(rY ks key).toNat
theorem QV(ks:List ByteArray)(key:ByteArray):rY ks key<=ks.length:=by
 unfold rY
 cases h:ks.findIdx? (λk=>!(dP k key)) with
 |none=>show(-1:Int)<=_;omega
 |some i=>
  have:=(List.findIdx?_eq_some_iff_getElem.1 h).1
  show(i:Int)<=_;omega
theorem kS(ks:List ByteArray)(key:ByteArray):bQ ks key<=ks.length:=by
 have:=QV ks key
 unfold bQ;split<;>omega
def eP(x:V):V:=if x.k=5 then x else .mk 5 0 ⟨#[]⟩ [] []
def bH(x:V)(key:ByteArray)(y:V):V:=match pl (eP x) key with
 |some i=> .mk (eP x).k (eP x).n (eP x).t (cutV (eP x)).ks ((cutV (eP x)).vs.set i y)
 |none=> .mk (eP x).k (eP x).n (eP x).t (dO (cutV (eP x)).ks (bQ (cutV (eP x)).ks key) key) (dO (cutV (eP x)).vs (bQ (cutV (eP x)).ks key) y)
theorem Fits.obj{x:V}(h:Fits x):Fits (eP x):=by
 unfold eP
 split
 ·exact h
 ·exact .mk _ _ _ _ _ (by decide) (by decide) (by simp)
theorem uP(x:V):(cutV x).ks.length=(cutV x).vs.length:=by simp[cutV,V.ks,V.vs]
theorem qB{α:Type}(l:List α)(n:Nat)(h:l.length=n):(l.drop 0).take n=l:=by subst h;simp
theorem Lc(l:List V)(i:Nat)(x:V):aW (dO l i x)=dO (aW l) i (aD x):=by simp[eB,dO]
theorem Ty{x:V}{key:ByteArray}(hx:Fits x){i:Nat}(hp:pl x key=some i)(H:Hp):au Tryz.prog 98 [.agg (aD x),.v (.string key)] H (bz H (.v (.int .i64 (i:Int)))):=by
 have:=oW x key hx H;rw[hp] at this;exact this
theorem Dw{x:V}{key:ByteArray}(hx:Fits x)(hp:pl x key=none)(H:Hp):au Tryz.prog 98 [.agg (aD x),.v (.string key)] H (bz H (.v (.int .i64 (-1)))):=by
 have:=oW x key hx H;rw[hp] at this;exact this
theorem Gr{α:Type}(l:List α)(i:Nat)(a b:α)(h:i<=l.length):(dO l i a).set i b=dO l i b:=by
 unfold dO
 rw[List.set_append_right _ _ (by rw[List.length_take];omega)]
 have:i-(l.take i).length=0:=by rw[List.length_take];omega
 rw[this];rfl
theorem xC(ks:List ByteArray)(key:ByteArray)(i:Nat)(hi:i<=ks.length)(hl:ks.length<=1000000)(id jQ:Nat)(G:Hp)(hD:aM G [(id,.row 9 1 (ks.map encS)),(jQ,.row 9 1 [[.v (.string key)]])]):
 au Tryz.prog 113 [.own id 0 ks.length 1,.v (.int .i64 (i:Int)),.own jQ 0 1 1] (aC G [(id,.row 9 1 (ks.map encS)),(jQ,.row 9 1 [[.v (.string key)]])])
  (λu H'=>∃news,aM G news/\H'=aC G news/\∃id',u=.own id' 0 (ks.length+1) 1/\news=[(id',.row 9 1 ((dO ks i key).map encS))]):=by
 have e1:(ks.map encS).length=ks.length:=List.length_map ..
 have:=Il (ks.map encS) (jU _) (by omega) (encS key) U i (by omega) id jQ G hD
 rw[e1] at this
 refine this.mono λu H' ⟨news,h1,h2,id',h3,h4⟩=>⟨news,h1,h2,id',by rw[h3,e1],?_⟩
 rw[h4];simp[dO]
theorem xD(vs:List V)(y:V)(i:Nat)(hi:i<=vs.length)(hl:vs.length<=1000000)(id jQ:Nat)(G:Hp)(hD:aM G [(id,.row 26 5 (aW vs)),(jQ,.row 26 5 [aD y])]):
 au Tryz.prog 114 [.own id 0 vs.length 5,.v (.int .i64 (i:Int)),.own jQ 0 1 5] (aC G [(id,.row 26 5 (aW vs)),(jQ,.row 26 5 [aD y])])
  (λu H'=>∃news,aM G news/\H'=aC G news/\∃id',u=.own id' 0 (vs.length+1) 5/\news=[(id',.row 26 5 (aW (dO vs i y)))]):=by
 have e1:=aP vs
 have:=Im (aW vs) (jq _) (by omega) (aD y) (Y _) i (by omega) id jQ G hD
 rw[e1] at this
 refine this.mono λu H' ⟨news,h1,h2,id',h3,h4⟩=>⟨news,h1,h2,id',by rw[h3,e1],?_⟩
 rw[h4,Lc]
theorem Gs{ks:List ByteArray}{key:ByteArray}(hl:ks.length<=1000000)(hf:ks.findIdx? (λk=>!(dP k key))=none)(p4:Nat)(H:Hp)(hp:H p4=some (.box 9 [.v (.string key)])):
 au Tryz.prog 110 [strs ks,.gN 111 [.ptr p4 0]] H (bz H (.v (.int .i64 (-1)))):=by
 have:=ui ks 111 [.ptr p4 0] (λk=>!(dP k key)) hl H λz _ H' hs=>Dv z key p4 H' (hs _ _ hp)
 rw[hf] at this;exact this
theorem QW{ks:List ByteArray}{key:ByteArray}(hl:ks.length<=1000000){i:Nat}(hf:ks.findIdx? (λk=>!(dP k key))=some i)(p4:Nat)(H:Hp)(hp:H p4=some (.box 9 [.v (.string key)])):
 au Tryz.prog 110 [strs ks,.gN 111 [.ptr p4 0]] H (bz H (.v (.int .i64 (i:Int)))):=by
 have:=ui ks 111 [.ptr p4 0] (λk=>!(dP k key)) hl H λz _ H' hs=>Dv z key p4 H' (hs _ _ hp)
 rw[hf] at this;exact this
theorem vk(k n:Int)(t:ByteArray)(ks:List ByteArray)(vs:List V):V.k (.mk k n t ks vs)=k:=rfl
theorem vn(k n:Int)(t:ByteArray)(ks:List ByteArray)(vs:List V):V.n (.mk k n t ks vs)=n:=rfl
theorem vt(k n:Int)(t:ByteArray)(ks:List ByteArray)(vs:List V):V.t (.mk k n t ks vs)=t:=rfl
theorem yC(k n:Int)(t:ByteArray)(ks:List ByteArray)(vs:List V):V.ks (.mk k n t ks vs)=ks:=rfl
theorem yD(k n:Int)(t:ByteArray)(ks:List ByteArray)(vs:List V):V.vs (.mk k n t ks vs)=vs:=rfl
theorem Ap(l:List V)(i:Nat)(y:V):aW (l.set i y)=(aW l).set i (aD y):=by rw[eB,eB,List.map_set]
theorem aaq(x:V)(hx:Fits x)(key:ByteArray)(y:V)(hy:Fits y)(H:Hp)(i:Nat)(hk:x.k=5)(hp:pl x key=some i):
 au Tryz.prog 77 [.agg (aD x),.v (.string key),.agg (aD y)] H (K9 H (.mk x.k x.n x.t (cutV x).ks ((cutV x).vs.set i y))):=by
 obtain⟨k,n,t,ks,vs⟩:=x
 have hf:Fits (.mk k n t ks vs):=hx
 have hcf:=hf.cut
 have hkl:=hcf.VE
 have hvl:=hcf.Vl
 have VG:=uP (.mk k n t ks vs)
 have hev:=aP (cutV (.mk k n t ks vs)).vs
 have hek:((cutV (.mk k n t ks vs)).ks.map encS).length=(cutV (.mk k n t ks vs)).ks.length:=List.length_map ..
 simp only[V.k] at hk
 have hi:i<(cutV (.mk k n t ks vs)).vs.length:=by
  have h0:=Dr hp
  simp only[V.ks,V.vs] at h0
  simp only[cutV,V.ks,V.vs,List.length_take];omega
 refine aF (n:=49) (H0:=H) (I:=[]) Tryz.func77 (by kernel_rfl) U (by rw[Tryz.ntmps77];rfl) .nil<|?_
 refine Q.rg<|S.dd<|D.box U U U λp3=>S.dd<|D.box U U U λp4=>S.dd<|D.box U U (by exact aA _) λp5=>?_
 refine S.dd<|D.al z26 U U U λp6=>Q.nt<|S.sq<|Q.rg<|Q.fa bP U<|Q.lc 3 eQ U U U<|Q.bi U U U<|Q.nt<|S.cF U (nL (by omega))<|UW.skip<|UQ.then<|Q.rg<|S.qu (Z.dA 3 av U U U)<|Q.lc 2 ed U U U<|S.qu (Z.call U U (λ_=>Ty hf hp _))<|Q.as U<|Q.nt<|Q.rg<|S.qu (Z.dA 3 av U U U)<|S.dd<|D.cn U U (λ_=>uO (.mk k n t ks vs) hf _)<|?_
 rintro _ _ ⟨pi,pj,rfl,rfl⟩
 refine S.s<|D.st 5 av U U U U U U U U λ_=>Q.nt<|S.sq<|Q.rg<|Q.mv U<|Q.bi U U U<|Q.nt<|S.cF U (decide_eq_false (by omega))<|UW.skip<|UQ.then<|S.sq<|?_
 refine' UW.bG (by kernel_rfl) [0,1,0,0,8,31,63] [some 42,some 43,some 44,some 45,some 46,some 47,none] [some (42,_),some (43,_),some (44,_),some (45,_),some (46,_),some (47,_),none] [6] [1,3] U (by decide) (by decide) (M.free (by decide) U U ?NC (M.held (by decide) U U ?ND (M.free (by decide) U U ?NF (M.held (by decide) U U ?NG (M.free (by decide) U U ?NH (M.free (by decide) U U ?NI (M.skip M.nil))))))) ?aar
 case NC=>(intro _;exact Z.fa bO rfl)
 case ND=>exact Z.di 5 dF rfl rfl rfl
 case NF=>(intro _;exact Z.mv rfl)
 case NG=>exact Z.dA 3 av rfl rfl (Y _)
 case NH=>(intro _;exact Z.call rfl rfl (λ_=>iW (jV y hy _)))
 case NI=>(intro _;exact Z.io bM rfl rfl (by omega) (by omega))
 refine CH.df U U<|D.str 0 av U U U (by omega) U U (by exact aA _) (Y _) (jq _) λ_=>?_
 refine CH.nil<|?_
 simp only[app,bV]
 refine UQ.then<|Q.rg<|S.qu (Z.dA 5 av U U U)<|S.s<|D.st 2 av U U U U U U U U λ_=>Q.nt<|UW.ret<|?_
 exact bN [_,_] (λhd=>aU (k:=2) hd U U U fV fZ) (.cons_cons _ (.cons_cons _ (List.nil_sublist _))) λhd=>⟨_,hd,rfl,_,_,_,_,by(rw[vk,vn,vt,yC,yD,List.length_set])<;>rfl,rfl,by rw[yC,List.length_map];exact Nat.le_refl _,by rw[yC];exact List.take_of_length_le (by rw[List.length_map];exact Nat.le_refl _),by rw[yD,List.length_set,List.length_set,aP];exact Nat.le_refl _,by rw[List.take_of_length_le (by rw[yD,List.length_set,List.length_set,aP];exact Nat.le_refl _),Nat.zero_add,Int.toNat_natCast,<-Ap]<;>rfl⟩
theorem aas(x:V)(hx:Fits x)(key:ByteArray)(y:V)(hy:Fits y)(H:Hp)(hk:x.k=5)(hp:pl x key=none)(Tz:(cutV x).ks.findIdx? (λk=>!(dP k key))=none):
 au Tryz.prog 77 [.agg (aD x),.v (.string key),.agg (aD y)] H (K9 H (.mk x.k x.n x.t (dO (cutV x).ks (cutV x).ks.length key) (dO (cutV x).vs (cutV x).ks.length y))):=by
 obtain⟨k,n,t,ks,vs⟩:=x
 have hf:Fits (.mk k n t ks vs):=hx
 have hcf:=hf.cut
 have hkl:=hcf.VE
 have hvl:=hcf.Vl
 have VG:=uP (.mk k n t ks vs)
 have hev:=aP (cutV (.mk k n t ks vs)).vs
 have hek:((cutV (.mk k n t ks vs)).ks.map encS).length=(cutV (.mk k n t ks vs)).ks.length:=List.length_map ..
 simp only[V.k] at hk
 have hi:(cutV (.mk k n t ks vs)).ks.length<=(cutV (.mk k n t ks vs)).ks.length:=Nat.le_refl _
 have hi2:(cutV (.mk k n t ks vs)).ks.length<=(cutV (.mk k n t ks vs)).vs.length:=Nat.le_of_eq VG
 have hev2:=(aP (dO (cutV (.mk k n t ks vs)).vs (cutV (.mk k n t ks vs)).ks.length zeroV)).trans (bW _ _ _ hi2)
 refine aF (n:=49) (H0:=H) (I:=[]) Tryz.func77 (by kernel_rfl) U (by rw[Tryz.ntmps77];rfl) .nil<|?_
 refine Q.rg<|S.dd<|D.box U U U λp3=>S.dd<|D.box U U U λp4=>S.dd<|D.box U U (by exact aA _) λp5=>?_
 refine S.dd<|D.al z26 U U U λp6=>Q.nt<|S.sq<|Q.rg<|Q.fa bP U<|Q.lc 3 eQ U U U<|Q.bi U U U<|Q.nt<|S.cF U (nL (by omega))<|UW.skip<|UQ.then<|Q.rg<|S.qu (Z.dA 3 av U U U)<|Q.lc 2 ed U U U<|S.qu (Z.call U U (λ_=>Dw hf hp _))<|Q.as U<|Q.nt<|Q.rg<|S.qu (Z.dA 3 av U U U)<|S.dd<|D.cn U U (λ_=>uO (.mk k n t ks vs) hf _)<|?_
 rintro _ _ ⟨pi,pj,rfl,rfl⟩
 refine S.s<|D.st 5 av U U U U U U U U λ_=>Q.nt<|S.sq<|Q.rg<|Q.mv U<|Q.bi U U U<|Q.nt<|S.cT U (decide_eq_true (by omega))<|Q.rg<|Q.fa dw U<|Q.lc 5 dD U U U<|S.qu (Z.mf U)<|S.qu (Z.cbw [(p4,.box 9 [.v (.string key)])] (.cons _ (.cons _ (.cons _ (.cons _ (.cons_cons _ (List.nil_sublist _)))))) U U U (.own (k:=1) U (by omega) (qB _ _ hek) (.keep .nil)) (λhd=>Gs hkl Tz p4 _ (hd.at_ (k:=0) U)))<|Q.as U<|Q.nt<|S.sq<|Q.rg<|Q.mv U<|Q.bi U U U<|Q.nt<|S.cT U (decide_eq_true (by omega))<|S.rg<|Q.fa dw U<|Q.lc 5 dD U U U<|S.qu (Z.M8 aY U)<|Q.as U<|Q.nt<|Q.rg<|Q.fa dw U<|Q.lc 5 dD U U U<|Q.mv U<|Q.lc 4 ed U U U<|S.dd<|D.lit dV U U (bA U) λp32=>S.dd<|D.co (.cons 2 U (.cons 0 U .nil)) U U (λG hD=>xC (cutV (.mk k n t ks vs)).ks key (cutV (.mk k n t ks vs)).ks.length (by omega) hkl _ _ G hD)<|?_
 rintro _ _ ⟨pk,rfl,rfl⟩
 refine Q.fa dw U<|S.s<|D.st 5 dD U U U U U U U U λ_=>Q.nt<|S.rg<|Q.fa bO U<|Q.lc 5 dF U U U<|Q.mv U<|S.qu (Z.bd [] iE U U U U U U)<|S.dd<|D.lit iP U U (bA U) λp39=>S.dd<|D.co (.cons 2 U (.cons 0 U .nil)) U U (λG hD=>xD (cutV (.mk k n t ks vs)).vs zeroV (cutV (.mk k n t ks vs)).ks.length (by omega) hvl _ _ G hD)<|?_
 rintro _ _ ⟨pv,rfl,rfl⟩
 refine Q.fa bO U<|S.s<|D.st 5 dF U U U U U U U U λ_=>Q.nt<|S.sq<|?_
 refine' UW.bG (by kernel_rfl) [0,1,0,0,8,31,63] [some 42,some 43,some 44,some 45,some 46,some 47,none] [some (42,_),some (43,_),some (44,_),some (45,_),some (46,_),some (47,_),none] [6] [1,3] U (by decide) (by decide) (M.free (by decide) U U ?NC (M.held (by decide) U U ?ND (M.free (by decide) U U ?NF (M.held (by decide) U U ?NG (M.free (by decide) U U ?NH (M.free (by decide) U U ?NI (M.skip M.nil))))))) ?aar
 case NC=>(intro _;exact Z.fa bO rfl)
 case ND=>exact Z.di 5 dF rfl rfl rfl
 case NF=>(intro _;exact Z.mv rfl)
 case NG=>exact Z.dA 3 av rfl rfl (Y _)
 case NH=>(intro _;exact Z.call rfl rfl (λ_=>iW (jV y hy _)))
 case NI=>(intro _;exact Z.io bM rfl rfl (by omega) (by omega))
 refine CH.df U U<|D.str 0 av U U U (by omega) U U (by exact aA _) (Y _) (jq _) λ_=>?_
 refine CH.nil<|?_
 simp only[app,bV]
 refine UQ.then<|Q.rg<|S.qu (Z.dA 5 av U U U)<|S.s<|D.st 2 av U U U U U U U U λ_=>Q.nt<|UW.ret<|?_
 exact bN [_,_] (λhd=>aU (k:=2) hd U U U fV fZ) (.cons_cons _ (.cons_cons _ (List.nil_sublist _))) λhd=>⟨_,hd,rfl,_,_,_,_,by(rw[vk,vn,vt,yC,yD,bW _ _ _ hi,bW _ _ _ hi2])<;>rfl,rfl,by rw[yC,List.length_map];exact Nat.le_refl _,by rw[yC];exact List.take_of_length_le (by rw[List.length_map];exact Nat.le_refl _),by rw[yD,List.length_set,aP,bW _ _ _ hi2,bW _ _ _ hi2];exact Nat.le_refl _,by rw[List.take_of_length_le (by rw[yD,List.length_set,aP,bW _ _ _ hi2,bW _ _ _ hi2];exact Nat.le_refl _),Nat.zero_add,Int.toNat_natCast,<-Ap,Gr _ _ _ _ hi2]<;>rfl⟩
theorem aat(x:V)(hx:Fits x)(key:ByteArray)(y:V)(hy:Fits y)(H:Hp)(i:Nat)(hk:x.k=5)(hp:pl x key=none)(Tz:(cutV x).ks.findIdx? (λk=>!(dP k key))=some i):
 au Tryz.prog 77 [.agg (aD x),.v (.string key),.agg (aD y)] H (K9 H (.mk x.k x.n x.t (dO (cutV x).ks i key) (dO (cutV x).vs i y))):=by
 obtain⟨k,n,t,ks,vs⟩:=x
 have hf:Fits (.mk k n t ks vs):=hx
 have hcf:=hf.cut
 have hkl:=hcf.VE
 have hvl:=hcf.Vl
 have VG:=uP (.mk k n t ks vs)
 have hev:=aP (cutV (.mk k n t ks vs)).vs
 have hek:((cutV (.mk k n t ks vs)).ks.map encS).length=(cutV (.mk k n t ks vs)).ks.length:=List.length_map ..
 simp only[V.k] at hk
 have hi:i<=(cutV (.mk k n t ks vs)).ks.length:=Nat.le_of_lt (List.findIdx?_eq_some_iff_getElem.1 Tz).1
 have hi2:=VG▸hi
 have hev2:=(aP (dO (cutV (.mk k n t ks vs)).vs i zeroV)).trans (bW _ _ _ hi2)
 refine aF (n:=49) (H0:=H) (I:=[]) Tryz.func77 (by kernel_rfl) U (by rw[Tryz.ntmps77];rfl) .nil<|?_
 refine Q.rg<|S.dd<|D.box U U U λp3=>S.dd<|D.box U U U λp4=>S.dd<|D.box U U (by exact aA _) λp5=>?_
 refine S.dd<|D.al z26 U U U λp6=>Q.nt<|S.sq<|Q.rg<|Q.fa bP U<|Q.lc 3 eQ U U U<|Q.bi U U U<|Q.nt<|S.cF U (nL (by omega))<|UW.skip<|UQ.then<|Q.rg<|S.qu (Z.dA 3 av U U U)<|Q.lc 2 ed U U U<|S.qu (Z.call U U (λ_=>Dw hf hp _))<|Q.as U<|Q.nt<|Q.rg<|S.qu (Z.dA 3 av U U U)<|S.dd<|D.cn U U (λ_=>uO (.mk k n t ks vs) hf _)<|?_
 rintro _ _ ⟨pi,pj,rfl,rfl⟩
 refine S.s<|D.st 5 av U U U U U U U U λ_=>Q.nt<|S.sq<|Q.rg<|Q.mv U<|Q.bi U U U<|Q.nt<|S.cT U (decide_eq_true (by omega))<|Q.rg<|Q.fa dw U<|Q.lc 5 dD U U U<|S.qu (Z.mf U)<|S.qu (Z.cbw [(p4,.box 9 [.v (.string key)])] (.cons _ (.cons _ (.cons _ (.cons _ (.cons_cons _ (List.nil_sublist _)))))) U U U (.own (k:=1) U (by omega) (qB _ _ hek) (.keep .nil)) (λhd=>QW hkl Tz p4 _ (hd.at_ (k:=0) U)))<|Q.as U<|Q.nt<|S.sq<|Q.rg<|Q.mv U<|Q.bi U U U<|Q.nt<|S.cF U (decide_eq_false (by omega))<|UW.skip<|UQ.then<|Q.rg<|Q.fa dw U<|Q.lc 5 dD U U U<|Q.mv U<|Q.lc 4 ed U U U<|S.dd<|D.lit dV U U (bA U) λp32=>S.dd<|D.co (.cons 2 U (.cons 0 U .nil)) U U (λG hD=>xC (cutV (.mk k n t ks vs)).ks key i (by omega) hkl _ _ G hD)<|?_
 rintro _ _ ⟨pk,rfl,rfl⟩
 refine Q.fa dw U<|S.s<|D.st 5 dD U U U U U U U U λ_=>Q.nt<|S.rg<|Q.fa bO U<|Q.lc 5 dF U U U<|Q.mv U<|S.qu (Z.bd [] iE U U U U U U)<|S.dd<|D.lit iP U U (bA U) λp39=>S.dd<|D.co (.cons 2 U (.cons 0 U .nil)) U U (λG hD=>xD (cutV (.mk k n t ks vs)).vs zeroV i (by omega) hvl _ _ G hD)<|?_
 rintro _ _ ⟨pv,rfl,rfl⟩
 refine Q.fa bO U<|S.s<|D.st 5 dF U U U U U U U U λ_=>Q.nt<|S.sq<|?_
 refine' UW.bG (by kernel_rfl) [0,1,0,0,8,31,63] [some 42,some 43,some 44,some 45,some 46,some 47,none] [some (42,_),some (43,_),some (44,_),some (45,_),some (46,_),some (47,_),none] [6] [1,3] U (by decide) (by decide) (M.free (by decide) U U ?NC (M.held (by decide) U U ?ND (M.free (by decide) U U ?NF (M.held (by decide) U U ?NG (M.free (by decide) U U ?NH (M.free (by decide) U U ?NI (M.skip M.nil))))))) ?aar
 case NC=>(intro _;exact Z.fa bO rfl)
 case ND=>exact Z.di 5 dF rfl rfl rfl
 case NF=>(intro _;exact Z.mv rfl)
 case NG=>exact Z.dA 3 av rfl rfl (Y _)
 case NH=>(intro _;exact Z.call rfl rfl (λ_=>iW (jV y hy _)))
 case NI=>(intro _;exact Z.io bM rfl rfl (by omega) (by omega))
 refine CH.df U U<|D.str 0 av U U U (by omega) U U (by exact aA _) (Y _) (jq _) λ_=>?_
 refine CH.nil<|?_
 simp only[app,bV]
 refine UQ.then<|Q.rg<|S.qu (Z.dA 5 av U U U)<|S.s<|D.st 2 av U U U U U U U U λ_=>Q.nt<|UW.ret<|?_
 exact bN [_,_] (λhd=>aU (k:=2) hd U U U fV fZ) (.cons_cons _ (.cons_cons _ (List.nil_sublist _))) λhd=>⟨_,hd,rfl,_,_,_,_,by(rw[vk,vn,vt,yC,yD,bW _ _ _ hi,bW _ _ _ hi2])<;>rfl,rfl,by rw[yC,List.length_map];exact Nat.le_refl _,by rw[yC];exact List.take_of_length_le (by rw[List.length_map];exact Nat.le_refl _),by rw[yD,List.length_set,aP,bW _ _ _ hi2,bW _ _ _ hi2];exact Nat.le_refl _,by rw[List.take_of_length_le (by rw[yD,List.length_set,aP,bW _ _ _ hi2,bW _ _ _ hi2];exact Nat.le_refl _),Nat.zero_add,Int.toNat_natCast,<-Ap,Gr _ _ _ _ hi2]<;>rfl⟩
theorem aau(x:V)(hx:Fits x)(key:ByteArray)(y:V)(hy:Fits y)(H:Hp)(hk:¬x.k=5):
 au Tryz.prog 77 [.agg (aD x),.v (.string key),.agg (aD y)] H (K9 H (.mk 5 0 ⟨#[]⟩ [key] [y])):=by
 obtain⟨k,n,t,ks,vs⟩:=x
 have hf:Fits (.mk 5 0 ⟨#[]⟩ [] []):=.mk _ _ _ _ _ (by decide) (by decide) (by simp)
 have hcf:=hf.cut
 have hkl:=hcf.VE
 have hvl:=hcf.Vl
 have VG:=uP (.mk 5 0 ⟨#[]⟩ [] [])
 have hev:=aP (cutV (.mk 5 0 ⟨#[]⟩ [] [])).vs
 have hek:((cutV (.mk 5 0 ⟨#[]⟩ [] [])).ks.map encS).length=(cutV (.mk 5 0 ⟨#[]⟩ [] [])).ks.length:=List.length_map ..
 simp only[V.k] at hk
 have hp:pl (.mk 5 0 ⟨#[]⟩ [] []) key=none:=rfl
 have Tz:(cutV (.mk 5 0 ⟨#[]⟩ [] [])).ks.findIdx? (λk=>!(dP k key))=none:=rfl
 have hi:(cutV (.mk 5 0 ⟨#[]⟩ [] [])).ks.length<=(cutV (.mk 5 0 ⟨#[]⟩ [] [])).ks.length:=Nat.le_refl _
 have hi2:(cutV (.mk 5 0 ⟨#[]⟩ [] [])).ks.length<=(cutV (.mk 5 0 ⟨#[]⟩ [] [])).vs.length:=Nat.le_of_eq VG
 have hev2:=(aP (dO (cutV (.mk 5 0 ⟨#[]⟩ [] [])).vs (cutV (.mk 5 0 ⟨#[]⟩ [] [])).ks.length zeroV)).trans (bW _ _ _ hi2)
 refine aF (n:=49) (H0:=H) (I:=[]) Tryz.func77 (by kernel_rfl) U (by rw[Tryz.ntmps77];rfl) .nil<|?_
 refine Q.rg<|S.dd<|D.box U U U λp3=>S.dd<|D.box U U U λp4=>S.dd<|D.box U U (by exact aA _) λp5=>?_
 refine S.dd<|D.al z26 U U U λp6=>Q.nt<|S.sq<|Q.rg<|Q.fa bP U<|Q.lc 3 eQ U U U<|Q.bi U U U<|Q.nt<|S.cT U (uh (by omega))<|S.rg<|S.qu (Z.bd [0] iE U U U U U U)<|S.s<|D.st 3 av U U U U U U U U λ_=>Q.nt<|Q.rg<|S.qu (Z.dA 3 av U U U)<|Q.lc 2 ed U U U<|S.qu (Z.call U U (λ_=>Dw hf hp _))<|Q.as U<|Q.nt<|Q.rg<|S.qu (Z.dA 3 av U U U)<|S.dd<|D.cn U U (λ_=>uO (.mk 5 0 ⟨#[]⟩ [] []) hf _)<|?_
 rintro _ _ ⟨pi,pj,rfl,rfl⟩
 refine S.s<|D.st 5 av U U U U U U U U λ_=>Q.nt<|S.sq<|Q.rg<|Q.mv U<|Q.bi U U U<|Q.nt<|S.cT U (decide_eq_true (by omega))<|Q.rg<|Q.fa dw U<|Q.lc 5 dD U U U<|S.qu (Z.mf U)<|S.qu (Z.cbw [(p4,.box 9 [.v (.string key)])] (.cons _ (.cons _ (.cons _ (.cons _ (.cons_cons _ (List.nil_sublist _)))))) U U U (.own (k:=1) U (by omega) (qB _ _ hek) (.keep .nil)) (λhd=>Gs hkl Tz p4 _ (hd.at_ (k:=0) U)))<|Q.as U<|Q.nt<|S.sq<|Q.rg<|Q.mv U<|Q.bi U U U<|Q.nt<|S.cT U (decide_eq_true (by omega))<|S.rg<|Q.fa dw U<|Q.lc 5 dD U U U<|S.qu (Z.M8 aY U)<|Q.as U<|Q.nt<|Q.rg<|Q.fa dw U<|Q.lc 5 dD U U U<|Q.mv U<|Q.lc 4 ed U U U<|S.dd<|D.lit dV U U (bA U) λp32=>S.dd<|D.co (.cons 2 U (.cons 0 U .nil)) U U (λG hD=>xC (cutV (.mk 5 0 ⟨#[]⟩ [] [])).ks key (cutV (.mk 5 0 ⟨#[]⟩ [] [])).ks.length (by omega) hkl _ _ G hD)<|?_
 rintro _ _ ⟨pk,rfl,rfl⟩
 refine Q.fa dw U<|S.s<|D.st 5 dD U U U U U U U U λ_=>Q.nt<|S.rg<|Q.fa bO U<|Q.lc 5 dF U U U<|Q.mv U<|S.qu (Z.bd [] iE U U U U U U)<|S.dd<|D.lit iP U U (bA U) λp39=>S.dd<|D.co (.cons 2 U (.cons 0 U .nil)) U U (λG hD=>xD (cutV (.mk 5 0 ⟨#[]⟩ [] [])).vs zeroV (cutV (.mk 5 0 ⟨#[]⟩ [] [])).ks.length (by omega) hvl _ _ G hD)<|?_
 rintro _ _ ⟨pv,rfl,rfl⟩
 refine Q.fa bO U<|S.s<|D.st 5 dF U U U U U U U U λ_=>Q.nt<|S.sq<|?_
 refine' UW.bG (by kernel_rfl) [0,1,0,0,8,31,63] [some 42,some 43,some 44,some 45,some 46,some 47,none] [some (42,_),some (43,_),some (44,_),some (45,_),some (46,_),some (47,_),none] [6] [1,3] U (by decide) (by decide) (M.free (by decide) U U ?NC (M.held (by decide) U U ?ND (M.free (by decide) U U ?NF (M.held (by decide) U U ?NG (M.free (by decide) U U ?NH (M.free (by decide) U U ?NI (M.skip M.nil))))))) ?aar
 case NC=>(intro _;exact Z.fa bO rfl)
 case ND=>exact Z.di 5 dF rfl rfl rfl
 case NF=>(intro _;exact Z.mv rfl)
 case NG=>exact Z.dA 3 av rfl rfl (Y _)
 case NH=>(intro _;exact Z.call rfl rfl (λ_=>iW (jV y hy _)))
 case NI=>(intro _;exact Z.io bM rfl rfl (by omega) (by omega))
 refine CH.df U U<|D.str 0 av U U U (by omega) U U (by exact aA _) (Y _) (jq _) λ_=>?_
 refine CH.nil<|?_
 simp only[app,bV]
 refine UQ.then<|Q.rg<|S.qu (Z.dA 5 av U U U)<|S.s<|D.st 2 av U U U U U U U U λ_=>Q.nt<|UW.ret<|?_
 exact bN [_,_] (λhd=>aU (k:=2) hd U U U fV fZ) (.cons_cons _ (.cons_cons _ (List.nil_sublist _))) λhd=>⟨_,hd,rfl,_,_,_,_,rfl,rfl,Nat.le_refl _,rfl,Nat.le_refl _,rfl⟩
theorem TA(x:V)(hx:Fits x)(key:ByteArray)(y:V)(hy:Fits y)(H:Hp):
 au Tryz.prog 77 [.agg (aD x),.v (.string key),.agg (aD y)] H (K9 H (bH x key y)):=by
 by_cases hk:x.k=5
 ·have e1:eP x=x:=by unfold eP;rw[if_pos hk]
  unfold bH
  rw[e1]
  cases hp:pl x key with
  |some i=>exact aaq x hx key y hy H i hk hp
  |none=>
   cases Tz:(cutV x).ks.findIdx? (λk=>!(dP k key)) with
   |none=>
    have:=aas x hx key y hy H hk hp Tz
    have e2:bQ (cutV x).ks key=(cutV x).ks.length:=by unfold bQ rY;rw[Tz];rfl
    rw[<-e2] at this;exact this
   |some i=>
    have:=aat x hx key y hy H i hk hp Tz
    have e2:bQ (cutV x).ks key=i:=by
     unfold bQ rY;rw[Tz]
     show(if (i:Int)<0 then _ else(i:Int).toNat)=i
     rw[if_neg (by omega)];rfl
    rw[<-e2] at this;exact this
 ·have e1:eP x=.mk 5 0 ⟨#[]⟩ [] []:=by unfold eP;rw[if_neg hk]
  unfold bH
  rw[e1]
  exact aau x hx key y hy H hk
theorem vX(x:V)(hx:Fits x)(key:ByteArray)(y:V)(hy:Fits y)(H:Hp):
 au Tryz.prog 77 [.agg (aD x),.v (.string key),.agg (aD y)] H (bz H (.agg (aD (bH x key y)))):=vU (TA x hx key y hy H)
def yY(x:V):Bool:=if x.k=1 then(x.n==0||x.n==1) else if x.k=2 then(decide (-9007199254740991<=x.n)&&decide (x.n<=9007199254740991)) else(x.n==0)
def qj(ks:List ByteArray)(k:Nat):Bool:=decide (PX (ks.getD k ⟨#[]⟩)<0)&&(decide (k=0)||decide (Du (ks.getD (k-1) ⟨#[]⟩) (ks.getD k ⟨#[]⟩)<0))
def rZ(x:V):Bool:=if x.k=5 then(List.range x.ks.length).all (qj x.ks)&&((x.ks.length:Int)==(x.vs.length:Int)) else((x.ks.length:Int)==0)
theorem Ld(l:List ByteArray)(k:Nat)(h:k<l.length)(h0:0<k):(l.map encS)[((k:Int)-1).toNat]? =some (encS (l.getD (k-1) ⟨#[]⟩)):=by
 have e:((k:Int)-1).toNat=k-1:=by omega
 rw[e,eD l (k-1) (by omega),getD_at (by omega)]
mutual
def dG:V->Bool
 | .mk k n t ks vs=>(decide (0<=k)&&decide (k<=5)&&yY (.mk k n t ks vs)&&rZ (.mk k n t ks vs))&&!(!(t.toList==(⟨#[]⟩:ByteArray).toList)&&(!(k==3)||decide (0<=PX t)))&&!(decide (k<4)&&decide ((0:Int)<vs.length))&&mI vs
def mI:List V->Bool
 |[]=>true
 |x::r=>dG x&&mI r
end
theorem xE:∀l:List V,mI l=!l.any (λx=>!dG x)
 |[]=>rfl
 |x::r=>by rw[mI,xE r];simp
def mU(n:Int):V:=.mk 2 n ⟨#[]⟩ [] []
end Go.Proofs.YtonpfomjoiaacaaGreatDoor
end
