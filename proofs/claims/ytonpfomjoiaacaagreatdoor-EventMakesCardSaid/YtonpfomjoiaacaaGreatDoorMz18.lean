/- A part of the proof. -/
import Derived.Test.YtonpfomjoiaacaaGreatDoorMz17
import Derived.Test.YtonpfomjoiaacaaGreatDoorMz11
set_option maxRecDepth 100000
set_option maxHeartbeats 4000000
set_option linter.unusedSectionVars false
set_option linter.unusedVariables false
set_option linter.unusedSimpArgs false
section
namespace Go.Proofs.YtonpfomjoiaacaaGreatDoor
open Go Go.fT Go.RowKit
def cK(s:ByteArray):V:=.mk 3 0 s [] []
theorem o5(s:ByteArray)(H:Hp):au Tryz.prog 76 [.v (.string s)] H (bz H (.agg (aD (cK s)))):=by
 refine aF (n:=5) (H0:=H) (I:=[]) Tryz.func76 (by kernel_rfl) U (by rw[Tryz.ntmps76];rfl) .nil<|?_
 refine Q.rg<|US.nz U (by decide) U U z26 U U U U λp2=>Q.nt<|Q.rg<|Q.mv U<|US.Ah [0,2] U (by decide) U U iE U U U U U U U U<|US.bU U U U av U (k:=0) U (by rfl) U U (by rfl) (by rfl) U<|?_
 refine Q.nt<|UW.ret<|?_
 exact bN [] (λhd=>aU (k:=0) hd U U U fV fZ) (by simp) λhd=>⟨rfl,rfl⟩
theorem NJ(l:List ByteArray)(k:Nat)(h:k<l.length):(aW (l.map cK)).take k++[aD (cK l[k])]=(aW (l.map cK)).take (k+1):=by
 have:=Dn (l.map cK) k (by simpa using h)
 simpa using this
def eX(l:List ByteArray):V:=.mk 4 0 ⟨#[]⟩ [] (l.map cK)
def kX{α β:Type}(f:α->β->Bool):List α->List β->Bool
 |[],[]=>true
 |a::l,b::r=>f a b&&kX f l r
 |_,_=>false
theorem l9{α β:Type}{f:α->β->Bool}:∀{l:List α} {r:List β},l.length=r.length->(∀(i:Nat) (h:i<l.length) (h':i<r.length),f l[i] r[i]=true)->kX f l r=true
 |[],[],_,_=>rfl
 |a::l,b::r,hl,h=>by
  rw[kX,Bool.and_eq_true]
  exact⟨h 0 (by simp) (by simp),l9 (by simpa using hl) (λi h1 h2=>h (i+1) (by simpa using h1) (by simpa using h2))⟩
 |[],_::_,hl,_=>by simp at hl
 |_::_,[],hl,_=>by simp at hl
theorem uQ{α β:Type}{f:α->β->Bool}:∀{l:List α} {r:List β},l.length≠r.length->kX f l r=false
 |[],[],h=>by simp at h
 |a::l,b::r,h=>by rw[kX,uQ (by simpa using h)];simp
 |[],_::_,_=>rfl
 |_::_,[],_=>rfl
theorem yZ{α β:Type}{f:α->β->Bool}:∀{l:List α} {r:List β} (i:Nat) (h:i<l.length) (h':i<r.length),f l[i] r[i]=false->kX f l r=false
 |a::l,b::r,0,_,_,hf=>by
  have:f a b=false:=hf
  rw[kX,this];rfl
 |a::l,b::r,i+1,h,h',hf=>by rw[kX,yZ i (by simpa using h) (by simpa using h') (by simpa using hf)];simp
 |[],_,_,h,_,_=>by simp at h
 |_::_,[],_,_,h',_=>by simp at h'
def r9(a b:ByteArray):Bool:=a.toList==b.toList
theorem xG(l r:List ByteArray)(hl:l.length<=1000000)(H:Hp):au Tryz.prog 80 [strs l,strs r] H (bz H (.v (.bool (kX r9 l r)))):=by
 have wI:(l.map encS).length=l.length:=List.length_map ..
 have hmr:(r.map encS).length=r.length:=List.length_map ..
 refine aF (n:=26) (H0:=H) (I:=[]) Tryz.func80 (by kernel_rfl) U (by rw[Tryz.ntmps80];rfl) .nil<|?_
 refine Q.rg<|Q.as U<|Q.nt<|UW.seq<|Q.rg<|?_
 by_cases hlen:(((l.map encS).length:Nat):Int)=((r.map encS).length:Nat)
 ·refine Q.mv U<|US.fC U (by decide) U U aY U<|Q.mv U<|US.fC U (by decide) U U aY U<|US.az U (by decide) U U U U (r:=.bool false) (by simp only[dZ,hlen];simp)<|?_
  refine Q.nt<|UW.cond U (λh=>absurd h (by simp)) λ_=>?_
  refine UW.skip<|UQ.then<|UW.seq<|Q.rg<|Q.mv U<|US.fC U (by decide) U U aY U<|Q.mv U<|Q.nt<|UW.block<|UW.loop (λk:Nat=>[(13,.v (.int .i64 (k:Int))),(11,strs l),(12,.v (.int .i64 ((l.map encS).length:Int))),(0,strs l),(1,strs r)]) (λ_=>[]) (λk=>k<=l.length/\∀(j:Nat) (h:j<l.length) (h':j<r.length),j<k->r9 l[j] r[j]=true) (λk=>l.length-k) 0 ⟨Nat.zero_le _,λj _ _ h=>absurd h (by omega)⟩ ⟨rfl,rfl,rfl,rfl,rfl,trivial⟩ (.refl _)<|?_
  rintro k ⟨hk,hj⟩
  refine Q.rg<|Q.bi U U U<|Q.nt<|UW.seq<|?_
  refine UW.cond U (λh=>?_) (λh=>?_)
  ·have h:=of_decide_eq_true h
   have hlt:k<l.length:=by omega
   have QX:k<r.length:=by omega
   refine UW.skip<|UQ.then<|UW.seq<|UW.block<|Q.rg<|Q.mv U<|Q.as U<|Q.nt<|UW.seq<|?_
   refine' UW.bG (by kernel_rfl) [0,0,3,7,0,0,48,112,255] [some 16,some 17,some 18,some 19,some 20,some 21,some 22,some 23,some 24] [some (16,_),some (17,_),some (18,_),some (19,_),some (20,_),some (21,_),some (22,_),some (23,_),some (24,_)] [] [3,7] U (by decide) (by decide) (M.free (by decide) U U ?q0 (M.free (by decide) U U ?q1 (M.free (by decide) U U ?q2 (M.held (by decide) U U ?q3 (M.free (by decide) U U ?q4 (M.free (by decide) U U ?q5 (M.free (by decide) U U ?q6 (M.held (by decide) U U ?q7 (M.free (by decide) U U ?q8 M.nil))))))))) ?k
   case q0=>exact QF.move rfl rfl rfl
   case q1=>exact QF.move rfl rfl rfl
   case q2=>exact QF.bI rfl rfl aY rfl rfl (by omega) (eD l k hlt) rfl
   case q3=>exact QS.bD rfl rfl rfl ed
   case q4=>exact QF.move rfl rfl rfl
   case q5=>exact QF.move rfl rfl rfl
   case q6=>exact QF.bI rfl rfl aY rfl rfl (by omega) (eD r k QX) rfl
   case q7=>exact QS.bD rfl rfl rfl ed
   case q8=>exact QF.iG rfl rfl rfl rfl rfl
   refine CH.nil<|?_
   simp only[app,bV]
   refine UQ.then<|?_
   refine UW.cond U (λhb=>?_) (λhb=>?_)
   ·refine Q.rg<|Q.as U<|Q.nt<|UW.ret<|UQ.aH<|UQ.ax<|UQ.ax<|UQ.aH<|UQ.ax<|?_
    refine bN [] (λ_=>ak U U) (.refl _) λhd=>⟨?_,rfl⟩
    rw[yZ k hlt QX (by unfold r9;simpa using hb)]
   ·refine UW.skip<|UQ.aB<|UQ.then<|UW.region<|US.add U (by decide) U U U U (IntWalk.i64_in _ (by omega))<|Q.mv U<|?_
    exact US.round (a':=k+1) ⟨by omega,λj h3 h4 h5=>by
     by_cases hjk:j=k
     ·subst hjk;unfold r9;simpa using hb
     ·exact hj j h3 h4 (by omega)⟩ (by omega) ⟨rfl,rfl,rfl,rfl,rfl,trivial⟩ (.refl _)
  ·have h:=of_decide_eq_false h
   refine UW.exit<|UQ.pass<|UQ.pass<|UQ.here<|UQ.then<|Q.rg<|Q.as U<|Q.nt<|UW.ret<|?_
   refine bN [] (λ_=>ak U U) (.refl _) λhd=>⟨?_,rfl⟩
   rw[l9 (by omega) (λi h1 h2=>hj i h1 h2 (by omega))]
 ·refine Q.mv U<|US.fC U (by decide) U U aY U<|Q.mv U<|US.fC U (by decide) U U aY U<|US.az U (by decide) U U U U (r:=.bool true) (by simp only[dZ];simp[hlen];omega)<|?_
  refine Q.nt<|?_
  refine UW.cond U (λ_=>?_) (λh=>absurd h (by simp))
  refine Q.rg<|Q.as U<|Q.nt<|UW.ret<|UQ.ax<|?_
  refine bN [] (λ_=>ak U U) (.refl _) λhd=>⟨?_,rfl⟩
  rw[uQ (by omega)]
theorem Dx(l r:List V)(f:Nat)(g:V->V->Bool)(hl:l.length<=1000000)(hc:∀x∈l,∀y∈r,∀H,au Tryz.prog f [.agg (aD x),.agg (aD y)] H (bz H (.v (.bool (g x y)))))(H:Hp):
 au Tryz.prog 116 [.sl (aW l),.sl (aW r),.gN f []] H (bz H (.v (.bool (kX g l r)))):=by
 have wI:=aP l
 have hmr:=aP r
 refine aF (n:=32) (H0:=H) (I:=[]) Tryz.func116 (by kernel_rfl) U (by rw[Tryz.ntmps116];rfl) .nil<|?_
 refine Q.rg<|Q.as U<|Q.nt<|UW.seq<|Q.rg<|?_
 by_cases hlen:(((aW l).length:Nat):Int)=((aW r).length:Nat)
 ·refine Q.mv U<|US.fC U (by decide) U U bM U<|Q.mv U<|US.fC U (by decide) U U bM U<|US.az U (by decide) U U U U (r:=.bool false) (by simp only[dZ,hlen];simp)<|?_
  refine Q.nt<|UW.cond U (λh=>absurd h (by simp)) λ_=>?_
  refine UW.skip<|UQ.then<|UW.seq<|Q.rg<|Q.mv U<|US.fC U (by decide) U U bM U<|Q.mv U<|Q.nt<|UW.block<|UW.loop (λk:Nat=>[(17,.v (.int .i64 (k:Int))),(15,.sl (aW l)),(16,.v (.int .i64 ((aW l).length:Int))),(0,.sl (aW l)),(1,.sl (aW r)),(2,.gN f [])]) (λ_=>[]) (λk=>k<=l.length/\∀(j:Nat) (h:j<l.length) (h':j<r.length),j<k->g l[j] r[j]=true) (λk=>l.length-k) 0 ⟨Nat.zero_le _,λj _ _ h=>absurd h (by omega)⟩ ⟨rfl,rfl,rfl,rfl,rfl,rfl,trivial⟩ (.refl _)<|?_
  rintro k ⟨hk,hj⟩
  refine Q.rg<|Q.bi U U U<|Q.nt<|UW.seq<|?_
  refine UW.cond U (λh=>?_) (λh=>?_)
  ·have h:=of_decide_eq_true h
   have hlt:k<l.length:=by omega
   have QX:k<r.length:=by omega
   refine UW.skip<|UQ.then<|UW.seq<|UW.block<|Q.rg<|Q.mv U<|US.bI U (by decide) U U bM U U (by omega) (fK l k hlt) (Y _)<|US.fB U (by decide) U U U av (by exact Y _)<|?_
   refine US.nz U (by decide) U U z26 U U U U λp8=>Q.as U<|US.bU U U U av U (k:=0) U (by rfl) U U (by exact aA _) (by exact Y _) U<|?_
   refine Q.nt<|Q.rg<|Q.mv U<|Q.mv U<|US.bI U (by decide) U U bM U U (by omega) (fK r k QX) (Y _)<|US.fB U (by decide) U U U av (by exact Y _)<|?_
   refine US.nz U (by decide) U U z26 U U U U λp9=>US.bU U U U av U (k:=0) U (by rfl) U U (by exact aA _) (by exact Y _) U<|?_
   refine Q.nt<|Q.rg<|Q.mv U<|US.dI U (by decide) U U av U (k:=1) U (by exact Y _)<|?_
   refine US.dI U (by decide) U U av U (k:=0) U (by exact Y _)<|?_
   refine US.dz U (by decide) U U U U (λ_=>hc _ (List.getElem_mem hlt) _ (List.getElem_mem QX) _)<|US.not U (by decide) U U U<|Q.nt<|?_
   refine UW.cond U (λhb=>?_) (λhb=>?_)
   ·refine Q.rg<|Q.as U<|Q.nt<|UW.ret<|UQ.aH<|UQ.ax<|UQ.ax<|UQ.aH<|UQ.ax<|?_
    refine bN [] (λ_=>ak U U) (by simp) λhd=>⟨?_,rfl⟩
    rw[yZ k hlt QX (by simpa using hb)]
   ·refine UW.skip<|UQ.aB<|UQ.then<|UW.region<|US.add U (by decide) U U U U (IntWalk.i64_in _ (by omega))<|Q.mv U<|?_
    exact US.round (a':=k+1) ⟨by omega,λj h3 h4 h5=>by
     by_cases hjk:j=k
     ·subst hjk;simpa using hb
     ·exact hj j h3 h4 (by omega)⟩ (by omega) ⟨rfl,rfl,rfl,rfl,rfl,rfl,trivial⟩ (by simp)
  ·have h:=of_decide_eq_false h
   refine UW.exit<|UQ.pass<|UQ.pass<|UQ.here<|UQ.then<|Q.rg<|Q.as U<|Q.nt<|UW.ret<|?_
   refine bN [] (λ_=>ak U U) (.refl _) λhd=>⟨?_,rfl⟩
   rw[l9 (by omega) (λi h1 h2=>hj i h1 h2 (by omega))]
 ·refine Q.mv U<|US.fC U (by decide) U U bM U<|Q.mv U<|US.fC U (by decide) U U bM U<|US.az U (by decide) U U U U (r:=.bool true) (by simp only[dZ];(simp[hlen];done))<|?_
  refine Q.nt<|?_
  refine UW.cond U (λ_=>?_) (λh=>absurd h (by simp))
  refine Q.rg<|Q.as U<|Q.nt<|UW.ret<|UQ.ax<|?_
  refine bN [] (λ_=>ak U U) (.refl _) λhd=>⟨?_,rfl⟩
  rw[uQ (by omega)]
mutual
def gp:V->V->Bool
 | .mk k n t ks vs,.mk k' n' t' ks' vs'=>(k==k')&&((n==n')&&(r9 t t'&&(kX r9 ks ks'&&uR vs vs')))
def uR:List V->List V->Bool
 |[],[]=>true
 |x::l,y::r=>gp x y&&uR l r
 |[],_::_=>false
 |_::_,[]=>false
end
theorem oq:∀l r:List V,uR l r=kX gp l r
 |[],[]=>rfl
 |x::l,y::r=>by rw[uR,oq l r];rfl
 |[],_::_=>rfl
 |_::_,[]=>rfl
theorem Bu(l r:List ByteArray)(hl:l.length<=1000000)(b:Bool)(hb:kX r9 l r=b)(H:Hp):au Tryz.prog 80 [strs l,strs r] H (bz H (.v (.bool b))):=by rw[<-hb];exact xG l r hl H
theorem Gt(x:V)(hx:Fits x):∀(y:V) (H:Hp),au Tryz.prog 81 [.agg (aD x),.agg (aD y)] H (bz H (.v (.bool (gp x y)))):=by
 induction hx with
 |mk k n t ks vs h1 h2 h ih=>
 rintro⟨k',n',t',ks',vs'⟩ H
 refine aF (n:=38) (H0:=H) (I:=[]) Tryz.func81 (by kernel_rfl) U (by rw[Tryz.ntmps81];rfl) .nil<|?_
 refine Q.rg<|US.box U (by decide) U U U U (by rfl) λp2=>?_
 refine US.box U (by decide) U U U U (by rfl) λp3=>?_
 refine Q.as U<|Q.nt<|Q.rg<|?_
 by_cases hk:k=k'
 ·by_cases hn:n=n'
  ·cases ht:r9 t t' with
   |true=>
    cases hks:kX r9 ks ks' with
    |true=>
     refine US.fieldAddr U (by decide) U U U bP<|Q.lc 1 eQ U U U<|US.fieldAddr U (by decide) U U U bP<|Q.lc 0 eQ U U U<|US.az U (by decide) U U U U (r:=.bool true) (by(simp[dZ,eH,hk];done))<|?_
     refine Q.mv U<|?_
     (refine US.on U U (by decide) U ?_;refine US.fieldAddr U (by decide) U U U iA ?_)
     (refine US.on U U (by decide) U ?_;refine US.aJ U (by decide) U U qF U (k:=1) U U ?_)
     (refine US.on U U (by decide) U ?_;refine US.fieldAddr U (by decide) U U U iA ?_)
     (refine US.on U U (by decide) U ?_;refine US.aJ U (by decide) U U qF U (k:=0) U U ?_)
     (refine US.on U U (by decide) U ?_;refine US.az U (by decide) U U U U (r:=.bool true) (by(simp[dZ,eH,hn];done)) ?_)
     refine Q.pk U U<|Q.mv U<|?_
     (refine US.on U U (by decide) U ?_;refine US.fieldAddr U (by decide) U U U jZ ?_)
     (refine US.on U U (by decide) U ?_;refine US.aJ U (by decide) U U ed U (k:=1) U U ?_)
     (refine US.on U U (by decide) U ?_;refine US.fieldAddr U (by decide) U U U jZ ?_)
     (refine US.on U U (by decide) U ?_;refine US.aJ U (by decide) U U ed U (k:=0) U U ?_)
     (refine US.on U U (by decide) U ?_;refine US.iG U (by decide) U U U U (r:=true) (congrArg some ht) ?_)
     refine Q.pk U U<|Q.mv U<|?_
     (refine US.on U U (by decide) U ?_;refine US.fieldAddr U (by decide) U U U dw ?_)
     (refine US.on U U (by decide) U ?_;refine US.aJ U (by decide) U U dD U (k:=1) U U ?_)
     (refine US.on U U (by decide) U ?_;refine US.fieldAddr U (by decide) U U U dw ?_)
     (refine US.on U U (by decide) U ?_;refine US.aJ U (by decide) U U dD U (k:=0) U U ?_)
     (refine US.on U U (by decide) U ?_;refine US.dz U (by decide) U U U U (λ_=>Bu ks ks' h1 true hks _) ?_)
     refine Q.pk U U<|Q.mv U<|?_
     (refine US.on U U (by decide) U ?_;refine US.fieldAddr U (by decide) U U U bO ?_)
     (refine US.on U U (by decide) U ?_;refine US.aJ U (by decide) U U dF U (k:=1) U U ?_)
     (refine US.on U U (by decide) U ?_;refine US.fieldAddr U (by decide) U U U bO ?_)
     (refine US.on U U (by decide) U ?_;refine US.aJ U (by decide) U U dF U (k:=0) U U ?_)
     (refine US.on U U (by decide) U ?_;refine US.dz U (by decide) U U U U (λ_=>Dx vs vs' _ gp h2 (λx hx y _ H=>ih x hx y H) _) ?_)
     refine Q.pk U U<|Q.as U<|Q.nt<|UW.ret<|?_
     refine bN [] (λ_=>ak U U) (by simp) λhd=>⟨?_,rfl⟩
     rw[gp,ht,hks,oq,hk,hn];simp
    |false=>
     refine US.fieldAddr U (by decide) U U U bP<|Q.lc 1 eQ U U U<|US.fieldAddr U (by decide) U U U bP<|Q.lc 0 eQ U U U<|US.az U (by decide) U U U U (r:=.bool true) (by(simp[dZ,eH,hk];done))<|?_
     refine Q.mv U<|?_
     (refine US.on U U (by decide) U ?_;refine US.fieldAddr U (by decide) U U U iA ?_)
     (refine US.on U U (by decide) U ?_;refine US.aJ U (by decide) U U qF U (k:=1) U U ?_)
     (refine US.on U U (by decide) U ?_;refine US.fieldAddr U (by decide) U U U iA ?_)
     (refine US.on U U (by decide) U ?_;refine US.aJ U (by decide) U U qF U (k:=0) U U ?_)
     (refine US.on U U (by decide) U ?_;refine US.az U (by decide) U U U U (r:=.bool true) (by(simp[dZ,eH,hn];done)) ?_)
     refine Q.pk U U<|Q.mv U<|?_
     (refine US.on U U (by decide) U ?_;refine US.fieldAddr U (by decide) U U U jZ ?_)
     (refine US.on U U (by decide) U ?_;refine US.aJ U (by decide) U U ed U (k:=1) U U ?_)
     (refine US.on U U (by decide) U ?_;refine US.fieldAddr U (by decide) U U U jZ ?_)
     (refine US.on U U (by decide) U ?_;refine US.aJ U (by decide) U U ed U (k:=0) U U ?_)
     (refine US.on U U (by decide) U ?_;refine US.iG U (by decide) U U U U (r:=true) (congrArg some ht) ?_)
     refine Q.pk U U<|Q.mv U<|?_
     (refine US.on U U (by decide) U ?_;refine US.fieldAddr U (by decide) U U U dw ?_)
     (refine US.on U U (by decide) U ?_;refine US.aJ U (by decide) U U dD U (k:=1) U U ?_)
     (refine US.on U U (by decide) U ?_;refine US.fieldAddr U (by decide) U U U dw ?_)
     (refine US.on U U (by decide) U ?_;refine US.aJ U (by decide) U U dD U (k:=0) U U ?_)
     (refine US.on U U (by decide) U ?_;refine US.dz U (by decide) U U U U (λ_=>Bu ks ks' h1 false hks _) ?_)
     refine Q.pk U U<|Q.mv U<|Q.of<|Q.of<|Q.of<|Q.of<|Q.of<|Q.pk U U<|Q.as U<|Q.nt<|UW.ret<|?_
     refine bN [] (λ_=>ak U U) (by simp) λhd=>⟨?_,rfl⟩
     rw[gp,hks];simp
   |false=>
    refine US.fieldAddr U (by decide) U U U bP<|Q.lc 1 eQ U U U<|US.fieldAddr U (by decide) U U U bP<|Q.lc 0 eQ U U U<|US.az U (by decide) U U U U (r:=.bool true) (by(simp[dZ,eH,hk];done))<|?_
    refine Q.mv U<|?_
    (refine US.on U U (by decide) U ?_;refine US.fieldAddr U (by decide) U U U iA ?_)
    (refine US.on U U (by decide) U ?_;refine US.aJ U (by decide) U U qF U (k:=1) U U ?_)
    (refine US.on U U (by decide) U ?_;refine US.fieldAddr U (by decide) U U U iA ?_)
    (refine US.on U U (by decide) U ?_;refine US.aJ U (by decide) U U qF U (k:=0) U U ?_)
    (refine US.on U U (by decide) U ?_;refine US.az U (by decide) U U U U (r:=.bool true) (by(simp[dZ,eH,hn];done)) ?_)
    refine Q.pk U U<|Q.mv U<|?_
    (refine US.on U U (by decide) U ?_;refine US.fieldAddr U (by decide) U U U jZ ?_)
    (refine US.on U U (by decide) U ?_;refine US.aJ U (by decide) U U ed U (k:=1) U U ?_)
    (refine US.on U U (by decide) U ?_;refine US.fieldAddr U (by decide) U U U jZ ?_)
    (refine US.on U U (by decide) U ?_;refine US.aJ U (by decide) U U ed U (k:=0) U U ?_)
    (refine US.on U U (by decide) U ?_;refine US.iG U (by decide) U U U U (r:=false) (congrArg some ht) ?_)
    refine Q.pk U U<|Q.mv U<|Q.of<|Q.of<|Q.of<|Q.of<|Q.of<|Q.pk U U<|Q.mv U<|Q.of<|Q.of<|Q.of<|Q.of<|Q.of<|Q.pk U U<|Q.as U<|Q.nt<|UW.ret<|?_
    refine bN [] (λ_=>ak U U) (by simp) λhd=>⟨?_,rfl⟩
    rw[gp,ht];simp
  ·have hn2:(n==n')=false:=by simpa using hn
   refine US.fieldAddr U (by decide) U U U bP<|Q.lc 1 eQ U U U<|US.fieldAddr U (by decide) U U U bP<|Q.lc 0 eQ U U U<|US.az U (by decide) U U U U (r:=.bool true) (by(simp[dZ,eH,hk];done))<|?_
   refine Q.mv U<|?_
   (refine US.on U U (by decide) U ?_;refine US.fieldAddr U (by decide) U U U iA ?_)
   (refine US.on U U (by decide) U ?_;refine US.aJ U (by decide) U U qF U (k:=1) U U ?_)
   (refine US.on U U (by decide) U ?_;refine US.fieldAddr U (by decide) U U U iA ?_)
   (refine US.on U U (by decide) U ?_;refine US.aJ U (by decide) U U qF U (k:=0) U U ?_)
   (refine US.on U U (by decide) U ?_;refine US.az U (by decide) U U U U (r:=.bool false) (by(simp[dZ,eH,hn];done)) ?_)
   refine Q.pk U U<|Q.mv U<|Q.of<|Q.of<|Q.of<|Q.of<|Q.of<|Q.pk U U<|Q.mv U<|Q.of<|Q.of<|Q.of<|Q.of<|Q.of<|Q.pk U U<|Q.mv U<|Q.of<|Q.of<|Q.of<|Q.of<|Q.of<|Q.pk U U<|Q.as U<|Q.nt<|UW.ret<|?_
   refine bN [] (λ_=>ak U U) (by simp) λhd=>⟨?_,rfl⟩
   rw[gp,hn2];simp
 ·have hk2:(k==k')=false:=by simpa using hk
  refine US.fieldAddr U (by decide) U U U bP<|Q.lc 1 eQ U U U<|US.fieldAddr U (by decide) U U U bP<|Q.lc 0 eQ U U U<|US.az U (by decide) U U U U (r:=.bool false) (by(simp[dZ,eH,hk];done))<|?_
  refine Q.mv U<|Q.of<|Q.of<|Q.of<|Q.of<|Q.of<|Q.pk U U<|Q.mv U<|Q.of<|Q.of<|Q.of<|Q.of<|Q.of<|Q.pk U U<|Q.mv U<|Q.of<|Q.of<|Q.of<|Q.of<|Q.of<|Q.pk U U<|Q.mv U<|Q.of<|Q.of<|Q.of<|Q.of<|Q.of<|Q.pk U U<|Q.as U<|Q.nt<|UW.ret<|?_
  refine bN [] (λ_=>ak U U) (by simp) λhd=>⟨?_,rfl⟩
  rw[gp,hk2];simp
def lU(c:Int):Int:=if c<128 then 0 else if 194<=c/\c<=223 then 1 else if 224<=c/\c<=239 then 2 else if 240<=c/\c<=244 then 3 else-1
theorem QY(c:Int)(H:Hp):au Tryz.prog 239 [.v (.int .u8 c)] H (bz H (.v (.int .i64 (lU c)))):=by
 refine aF (n:=27) (H0:=H) (I:=[]) Tryz.func239 (by kernel_rfl) U (by rw[Tryz.ntmps239];rfl) .nil<|?_
 focus
  refine Q.rg<|Q.as U<|Q.nt<|S.sq<|UW.block<|Q.rg<|Q.mv U<|Q.bi U U U<|Q.as U<|Q.nt<|?_
  refine S.cD U (λhc3=>?_) (λhc3=>?_)
  refine Q.rg<|Q.as U<|Q.nt<|UW.ret<|UQ.aH<|UQ.ax<|S.bK (λ_=>ak U U)<|?_
  focus ((congr 2;unfold lU;(repeat' split)<;>rfl);done)
  refine Q.rg<|Q.mv U<|Q.bi U U U<|Q.mv U<|?_
  refine S.tD 9 (λhc9=>?_) (λhc9=>?_)
  refine Q.on (Z.mv U)<|Q.on (Z.bi U U U)<|Q.pk U U<|Q.as U<|Q.nt<|?_
  refine S.cD U (λhc6=>?_) (λhc6=>?_)
  refine Q.rg<|Q.as U<|Q.nt<|UW.ret<|UQ.aH<|UQ.ax<|S.bK (λ_=>ak U U)<|?_
  focus ((congr 2;unfold lU;(repeat' split)<;>first|rfl|omega);done)
  refine Q.rg<|Q.mv U<|Q.bi U U U<|Q.mv U<|?_
  refine S.tD 16 (λhc16=>?_) (λhc16=>?_)
  rotate_left
  omega
  rotate_right
  refine Q.on (Z.mv U)<|Q.on (Z.bi U U U)<|Q.pk U U<|Q.as U<|Q.nt<|?_
  refine S.cD U (λaav=>?_) (λaav=>?_)
  refine Q.rg<|Q.as U<|Q.nt<|UW.ret<|UQ.aH<|UQ.ax<|S.bK (λ_=>ak U U)<|?_
  focus ((congr 2;unfold lU;(repeat' split)<;>first|rfl|omega);done)
  refine Q.rg<|Q.mv U<|Q.bi U U U<|Q.mv U<|?_
  refine S.tD 23 (λaaw=>?_) (λaaw=>?_)
  rotate_left
  omega
  rotate_right
  refine Q.on (Z.mv U)<|Q.on (Z.bi U U U)<|Q.pk U U<|Q.as U<|Q.nt<|?_
  refine S.cD U (λTB=>?_) (λTB=>?_)
  refine Q.rg<|Q.as U<|Q.nt<|UW.ret<|UQ.aH<|UQ.ax<|S.bK (λ_=>ak U U)<|?_
  focus ((congr 2;unfold lU;(repeat' split)<;>first|rfl|omega);done)
  refine UW.skip<|UQ.aB<|UQ.then<|Q.rg<|Q.as U<|Q.nt<|UW.ret<|S.bK (λ_=>ak U U)<|?_
  focus ((congr 2;unfold lU;(repeat' split)<;>first|rfl|omega);done)
  refine Q.of<|Q.of<|Q.pk U U<|Q.as U<|Q.nt<|S.cF U U<|Q.rg<|Q.mv U<|Q.bi U U U<|Q.mv U<|?_
  refine S.tD 16 (λhc16=>?_) (λhc16=>?_)
  omega
  refine Q.of<|Q.of<|Q.pk U U<|Q.as U<|Q.nt<|S.cF U U<|Q.rg<|Q.mv U<|Q.bi U U U<|Q.mv U<|?_
  refine S.tD 23 (λaaw=>?_) (λaaw=>?_)
  omega
  refine Q.of<|Q.of<|Q.pk U U<|Q.as U<|Q.nt<|S.cF U U<|UW.skip<|UQ.aB<|UQ.then<|Q.rg<|Q.as U<|Q.nt<|UW.ret<|S.bK (λ_=>ak U U)<|?_
  focus ((congr 2;unfold lU;(repeat' split)<;>first|rfl|omega);done)
end Go.Proofs.YtonpfomjoiaacaaGreatDoor
end
