/- A part of the proof. -/
import Derived.Test.YtonpfomjoiaacaaGreatDoorMw10
import Derived.Test.YtonpfomjoiaacaaGreatDoorMw09
set_option maxRecDepth 100000
set_option maxHeartbeats 4000000
set_option linter.unusedSectionVars false
set_option linter.unusedVariables false
set_option linter.unusedSimpArgs false
section
namespace Go.Proofs.YtonpfomjoiaacaaGreatDoor
open Go Go.iG Go.RowKit
def dF(l:List ByteArray)(s:ByteArray):Option Nat:=l.findIdx? (λx=>s.toList==x.toList)
def oi:Option Nat->Int
 |none=> -1
 |some i=>i
theorem Cg{l:List ByteArray}{s:ByteArray}{k:Nat}(hk:k<l.length)(h:(s.toList==l[k].toList)=true)(hj:∀j (h:j<l.length),j<k->(s.toList==l[j].toList)=false):dF l s=some k:=by
 unfold dF
 rw[List.findIdx?_eq_some_iff_getElem]
 exact⟨hk,h,λj hjk=>by rw[hj j (by omega) hjk];simp⟩
theorem Dj{l:List ByteArray}{s:ByteArray}(hj:∀j (h:j<l.length),(s.toList==l[j].toList)=false):dF l s=none:=by
 unfold dF
 rw[List.findIdx?_eq_none_iff]
 intro x hx
 obtain⟨j,hj2,rfl⟩:=List.getElem_of_mem hx
 exact hj j hj2
theorem nG{l:List ByteArray}{s:ByteArray}{i:Nat}(h:dF l s=some i):i<l.length:=by
 unfold dF at h
 rw[List.findIdx?_eq_some_iff_getElem] at h
 exact h.1
theorem eY(l:List ByteArray)(k:Nat)(h:k<l.length):(l.map encS)[k]? =some (encS l[k]):=by rw[List.getElem?_map,List.getElem?_eq_getElem h];rfl
theorem index_spec(l:List ByteArray)(s:ByteArray)(hl:l.length<=1000000)(H:Hp):
 au Tryz.prog 140 [strs l,.v (.string s)] H (bB H (.v (.int .i64 (oi (dF l s))))):=by
 refine aF (n:=19) (H0:=H) (I:=[]) Tryz.func140 (by kernel_rfl) U (by rw[Tryz.ntmps140];rfl) .nil<|?_
 refine Q.rg<|Q.as U<|Q.nt<|UW.seq<|Q.rg<|Q.mv U<|US.gq U (by decide) U U aZ U<|Q.mv U<|Q.nt<|UW.block<|UW.loop (λk:Nat=>[(8,.v (.int .i64 (k:Int))),(6,strs l),(7,.v (.int .i64 ((l.map encS).length:Int))),(0,strs l),(1,.v (.string s))]) (λ_=>[]) (λk=>k<=l.length/\∀j (h:j<l.length),j<k->(s.toList==l[j].toList)=false) (λk=>l.length-k) 0 ⟨Nat.zero_le _,λj _ h=>absurd h (by omega)⟩ ⟨rfl,rfl,rfl,rfl,rfl,trivial⟩ (.refl _)<|?_
 rintro k ⟨hk,hj⟩
 refine Q.rg<|Q.bi U U U<|Q.nt<|UW.seq<|?_
 refine UW.cond U (λh=>?_) (λh=>?_)
 ·have h:=of_decide_eq_true h
  rw[List.length_map] at h
  have hlt:k<l.length:=by omega
  refine UW.skip<|UQ.then<|UW.seq<|UW.block<|Q.rg<|Q.mv U<|Q.as U<|Q.nt<|Q.rg<|Q.mv U<|Q.mv U<|Q.mv U<|US.bM U (by decide) U U aZ U U (by omega) (eY l k hlt) U<|US.bI U (by decide) U U U dW<|US.jl U (by decide) U U U U U<|Q.nt<|?_
  refine UW.cond U (λh2=>?_) (λh2=>?_)
  ·refine Q.rg<|Q.mv U<|Q.as U<|Q.nt<|UW.ret<|UQ.aI<|UQ.ax<|UQ.ax<|UQ.aI<|UQ.ax<|?_
   refine bR [] (λ_=>ak U U) (.refl _) λhd=>⟨?_,rfl⟩
   rw[Cg hlt h2 hj];rfl
  ·refine UW.skip<|UQ.aB<|UQ.then<|UW.region<|US.add U (by decide) U U U U (IntWalk.i64_in _ (by omega))<|Q.mv U<|?_
   exact US.round (a':=k+1) ⟨by omega,λj h3 h4=>by
    by_cases hjk:j=k
    ·subst hjk;exact h2
    ·exact hj j h3 (by omega)⟩ (by omega) ⟨rfl,rfl,rfl,rfl,rfl,trivial⟩ (.refl _)
 ·have h:=of_decide_eq_false h
  rw[List.length_map] at h
  refine UW.exit<|UQ.pass<|UQ.pass<|UQ.here<|UQ.then<|Q.rg<|Q.as U<|Q.nt<|UW.ret<|?_
  refine bR [] (λ_=>ak U U) (.refl _) λhd=>⟨?_,rfl⟩
  rw[Dj (λj h3=>hj j h3 (by omega))];rfl
def pl(x:V)(key:ByteArray):Option Nat:=if x.k=5 then(match dF x.ks key with|some i=>if i<x.vs.length then some i else none|none=>none) else none
theorem qy(x:V)(key:ByteArray)(hx:Fits x)(H:Hp):
 au Tryz.prog 98 [.agg (aC x),.v (.string key)] H (bB H (.v (.int .i64 (oi (pl x key))))):=by
 cases hx with
 |mk k n t ks vs h1 h2 h=>
 refine aF (n:=19) (H0:=H) (I:=[]) Tryz.func98 (by kernel_rfl) U (by rw[Tryz.ntmps98];rfl) .nil<|?_
 refine Q.rg<|US.box U (by decide) U U U U (by rfl) λp2=>?_
 refine Q.as U<|Q.nt<|UW.seq<|Q.rg<|?_
 by_cases hk:k=5
 ·refine US.fieldAddr U (by decide) U U U bT<|Q.lc 0 fB U U U<|US.aA U (by decide) U U U U (r:=.bool false) (by(simp[eT,fe,hk];done))<|?_
  refine Q.nt<|UW.cond U (λh=>absurd h (by simp)) λ_=>?_
  refine UW.skip<|UQ.then<|UW.seq<|Q.rg<|US.fieldAddr U (by decide) U U U dJ<|Q.lc 0 dB U U U<|Q.mv U<|US.dL U (by decide) U U U U (λ_=>index_spec ks key h1 _)<|Q.as U<|Q.nt<|Q.rg<|Q.mv U<|US.fieldAddr U (by decide) U U U bU<|Q.lc 0 dR U U U<|US.gq U (by decide) U U bP U<|Q.bi U U U<|Q.nt<|?_
  refine UW.cond U (λh=>?_) (λh=>?_)
  ·refine Q.rg<|Q.mv U<|Q.as U<|Q.nt<|UW.ret<|UQ.ax<|?_
   refine bR [] (λ_=>ak U U) (by simp) λhd=>⟨?_,rfl⟩
   have h:=of_decide_eq_true h
   rw[aS] at h
   simp only[pl,V.k,V.ks,V.vs,hk,if_true]
   cases hi:dF ks key with
   |none=>rfl
   |some i=>
    rw[hi] at h
    have hlt:i<vs.length:=by simp only[oi] at h;omega
    simp[oi,hlt]
  ·refine UW.skip<|UQ.then<|Q.rg<|Q.as U<|Q.nt<|UW.ret<|?_
   refine bR [] (λ_=>ak U U) (by simp) λhd=>⟨?_,rfl⟩
   have h:=of_decide_eq_false h
   rw[aS] at h
   simp only[pl,V.k,V.ks,V.vs,hk,if_true]
   cases hi:dF ks key with
   |none=>rw[hi] at h;simp only[oi] at h;omega
   |some i=>
    rw[hi] at h
    have hlt:¬i<vs.length:=by simp only[oi] at h;omega
    simp[oi,hlt]
 ·refine US.fieldAddr U (by decide) U U U bT<|Q.lc 0 fB U U U<|US.aA U (by decide) U U U U (r:=.bool true) (by(simp[eT,fe,hk];done))<|?_
  refine Q.nt<|?_
  refine UW.cond U (λ_=>?_) (λh=>absurd h (by simp))
  refine Q.rg<|Q.as U<|Q.nt<|UW.ret<|UQ.ax<|?_
  refine bR [] (λ_=>ak U U) (by simp) λhd=>⟨?_,rfl⟩
  simp only[pl,V.k,hk,if_false];rfl
theorem Fg{x:V}{key:ByteArray}{i:Nat}(h:pl x key=some i):i<x.vs.length/\i<x.ks.length/\x.k=5:=by
 unfold pl at h
 split at h
 ·rename_i hk
  cases hi:dF x.ks key with
  |none=>rw[hi] at h;simp at h
  |some j=>
   rw[hi] at h
   simp only at h
   split at h
   ·cases h;exact⟨by assumption,nG hi,hk⟩
   ·cases h
 ·cases h
theorem Fits.vs{x:V}(h:Fits x):∀y∈x.vs,Fits y:=by cases h with|mk k n t ks vs h1 h2 h=>exact h
theorem Fits.XG{x:V}(h:Fits x):x.ks.length<=1000000:=by cases h with|mk k n t ks vs h1 h2 h=>exact h1
theorem Fits.Xn{x:V}(h:Fits x):x.vs.length<=1000000:=by cases h with|mk k n t ks vs h1 h2 h=>exact h2
def cutV(x:V):V:=.mk x.k x.n x.t (x.ks.take (min x.ks.length x.vs.length)) (x.vs.take (min x.ks.length x.vs.length))
theorem Fits.cut{x:V}(h:Fits x):Fits (cutV x):=.mk _ _ _ _ _ (by rw[List.length_take];have:=h.XG;omega) (by rw[List.length_take];have:=h.Xn;omega) (λy hy=>h.vs y (List.mem_of_mem_take hy))
theorem Ps(l:List V)(k:Nat):bu (l.take k)=(bu l).take k:=by rw[eX,eX,List.map_take]
theorem wR(x:V)(hx:Fits x)(H:Hp):
 au Tryz.prog 109 [.agg (aC x)] H (Vg H (cutV x)):=by
 have hf:=hx
 cases hx with
 |mk k n t ks vs h1 h2 h=>
 have hkl:(ks.map encS).length=ks.length:=List.length_map ..
 have hvl:=aS vs
 refine aF (n:=23) (H0:=H) (I:=[]) Tryz.func109 (by kernel_rfl) U (by rw[Tryz.ntmps109];rfl) .nil<|?_
 refine Q.rg<|US.box U (by decide) U U U U (by rfl) λp1=>?_
 refine US.oK U (by decide) U U z26 U U U U λp2=>Q.nt<|Q.rg<|US.fieldAddr U (by decide) U U U dJ<|Q.lc 1 dB U U U<|US.gq U (by decide) U U aZ U<|US.fieldAddr U (by decide) U U U bU<|Q.lc 1 dR U U U<|US.gq U (by decide) U U bP U<|?_
 refine US.min2' U (by decide) U U U U (r:=((min ks.length vs.length:Nat):Int)) (by rw[hkl,hvl];split<;>omega) ?_
 refine Q.as U<|Q.nt<|UW.seq<|?_
 refine' UW.bG (by kernel_rfl) [0,1,0,7,0,16,0,112,63,319,1023,2047] [some 11,some 12,some 13,some 14,some 15,some 16,some 17,some 18,some 19,none,none,none] [some (11,_),some (12,_),some (13,_),some (14,_),some (15,_),some (16,_),some (17,_),some (18,_),some (19,_),none,none,none] [9,10,11] [1,5] U (by decide) (by decide) (M.free (by decide) U U ?q0 (M.held (by decide) U U ?q1 (M.free (by decide) U U ?q2 (M.free (by decide) U U ?q3 (M.free (by decide) U U ?q4 (M.held (by decide) U U ?q5 (M.free (by decide) U U ?q6 (M.free (by decide) U U ?q7 (M.free (by decide) U U ?q8 (M.skip (M.skip (M.skip M.nil)))))))))))) ?k
 case q0=>exact QF.fieldAddr rfl rfl rfl dJ
 case q1=>exact QS.aJ rfl rfl dB rfl (k:=1) rfl rfl
 case q2=>exact QF.move rfl rfl rfl
 case q3=>exact QF.qd rfl rfl aZ rfl (by exact j5 _) (.hi rfl) (by omega) (by omega) rfl
 case q4=>exact QF.fieldAddr rfl rfl rfl bU
 case q5=>exact QS.aJ rfl rfl dR rfl (k:=1) rfl rfl
 case q6=>exact QF.move rfl rfl rfl
 case q7=>exact QF.qd rfl rfl bP rfl (by exact jR _) (.hi rfl) (by omega) (by omega) rfl
 case q8=>exact QF.fieldAddr rfl rfl rfl dJ
 refine CH.bX U U<|DS.gu U U dB U (k:=1) U U U (by rfl) (by rfl) U U λ_=>?_
 refine CH.cons U U (by decide)<|DS.qs (by exact QS.fieldAddr U U U bU)<|?_
 refine CH.bX U U<|DS.gu U U dR U (k:=1) U U U (by rfl) (by rfl) U U λ_=>?_
 refine CH.nil<|?_
 simp only[app,bS]
 have e1:List.drop 0 (List.take (min ks.length vs.length) (bu vs))=bu (vs.take (min ks.length vs.length)):=by rw[List.drop_zero,Ps]
 have e2:List.drop 0 (List.take (min ks.length vs.length) (ks.map encS))=(ks.take (min ks.length vs.length)).map encS:=by rw[List.drop_zero,List.map_take]
 rw[e1,e2]
 refine UQ.then<|Q.rg<|US.dV U (by decide) U U av U (k:=1) U (by rfl)<|?_
 refine US.mE U (by decide) U U U U (λ_=>kT (cutV (.mk k n t ks vs)) hf.cut _) ?_;rintro _ _ ⟨i,j,rfl,rfl⟩
 refine US.dw U U U av U (k:=2) U (by rfl) U U (by rfl) (by rfl) U<|?_
 refine Q.nt<|UW.ret<|?_
 simp only[List.set_cons_succ,List.set_cons_zero,List.cons_append,List.nil_append]
 refine bR [_,_] (λhd=>aX (k:=2) hd U U U gQ gT) (.cons_cons _ (.cons_cons _ (List.nil_sublist _))) λhd=>?_
 exact⟨_,hd,rfl,i,j,rfl,rfl⟩
def cutAt{α:Type}(l:List α)(i:Nat):List α:=l.take i++l.drop (i+1)
theorem lZ{α:Type}{l:List α}{i:Nat}(h:i<l.length):(cutAt l i).length=l.length-1:=by unfold cutAt;simp;omega
theorem Fh{α:Type}(l:List α)(i:Nat)(z:α)(h:i<l.length)(m:Nat)(hm:m=l.length-1)(A:List α)(hA:A=cutAt l i++l.drop m)(q:Nat)(hq:q=l.length-m)(q2:Nat)(hq2:q2=m+q):
 A.take m++List.replicate q z++A.drop q2=cutAt l i++[z]:=by
 subst hA hm hq hq2
 have e2:l.length-(l.length-1)=1:=by omega
 have e3:=lZ h
 rw[e2,List.take_append_of_le_length (by omega),List.take_of_length_le (by omega),List.drop_of_length_le (by rw[List.length_append,e3,List.length_drop];omega),List.append_nil]
 rfl
theorem JZ(rows:List (List AV))(len:Nat)(Vh:len=rows.length)(hr:∀cs∈rows,cs.length=1)(i:Nat)(hi:i<rows.length)(hb:rows.length<=1000000)(id:Nat)(H:Hp)(hH:H id=none):
 au Tryz.prog 194 [.own id 0 len 1,.v (.int .i64 (i:Int)),.v (.int .i64 ((i+1:Nat):Int))] (aD H [(id,.row 9 1 rows)])
  (λu H'=>u=.own id 0 (len-1) 1/\H'=aD H [(id,.row 9 1 (cutAt rows i++[[.v (.string ⟨#[]⟩)]]))]):=by
 subst Vh
 refine aF (n:=33) (H0:=H) (I:=[(id,.row 9 1 rows)]) Tryz.func194 (by kernel_rfl) U (by rw[Tryz.ntmps194];rfl) (.cons hH .nil)<|?_
 refine Q.rg<|Q.as U<|Q.nt<|Q.rg<|Q.mv U<|Q.mv U<|Q.mv U<|Q.mv U<|US.iQ U (by decide) U U aZ U<|US.qs U (by decide) (QS.uz U U aZ U U U U (by omega) (by omega) (by omega))<|Q.nt<|UW.seq<|Q.rg<|?_
 have hne:¬((i:Int)=(i:Int)+1):=by omega
 refine Q.mv U<|Q.mv U<|US.aA U (by decide) U U U U (r:=.bool false) (by(simp[eT,fe,hne];done))<|?_
 refine Q.nt<|UW.cond U (λh=>absurd h (by simp)) λ_=>?_
 refine UW.skip<|UQ.then<|Q.rg<|Q.mv U<|US.iQ U (by decide) U U aZ U<|Q.as U<|Q.nt<|UW.seq<|?_
 refine' UW.bG (by kernel_rfl) [0,0,3,0,0,24,63,127] [some 20,some 21,some 22,some 23,some 24,some 25,none,none] [some (20,_),some (21,_),some (22,_),some (23,_),some (24,_),some (25,_),none,none] [6,7] [] U (by decide) (by decide) (M.free (by decide) U U ?q0 (M.free (by decide) U U ?q1 (M.free (by decide) U U ?q2 (M.free (by decide) U U ?q3 (M.free (by decide) U U ?q4 (M.free (by decide) U U ?q5 (M.skip (M.skip M.nil)))))))) ?k
 case q0=>exact QF.move rfl rfl rfl
 case q1=>exact QF.move rfl rfl rfl
 case q2=>exact QF.kR rfl rfl aZ rfl (.hi rfl) (by omega) (by omega)
 case q3=>exact QF.move rfl rfl rfl
 case q4=>exact QF.move rfl rfl rfl
 case q5=>exact QF.kR rfl rfl aZ rfl (.lo rfl) (by omega) (by omega)
 refine CH.cons U U (by decide)<|DS.xS U U dQ U U (k:=0) U (.own (k:=0) U (by omega) U) (by rw[List.length_take,List.length_drop];omega) U U<|?_
 refine CH.cons U U (by decide)<|DS.qs (by exact QS.assign U U U)<|?_
 refine CH.nil<|?_
 simp only[app,bS]
 have e0:i-0+(List.take (rows.length-(i+1)) (List.drop (0+(i+1)) rows)).length=rows.length-1:=by rw[List.length_take,List.length_drop];omega
 have e1:List.take (i-0) rows++List.take (rows.length-(i+1)) (List.drop (0+(i+1)) rows)=cutAt rows i:=by
  rw[Nat.zero_add,List.take_of_length_le (l:=List.drop (i+1) rows) (by rw[List.length_drop];omega)];rfl
 have hcl:=lZ hi
 have hlen:(cutAt rows i++List.drop (rows.length-1) rows).length=rows.length:=by rw[List.length_append,hcl,List.length_drop];omega
 rw[e0,e1]
 refine UQ.then<|Q.rg<|Q.mv U<|Q.mv U<|US.iQ U (by decide) U U aZ U<|Q.mv U<|US.pQ U (by decide) U U aZ U (k:=0) U U U (by omega) (by rw[hlen];omega)<|?_
 refine US.clear U U U dQ U (k:=0) U (by rw[hlen];omega) z9 U (Fh rows i _ hi (rows.length-1) U _ U _ U _ U) U<|?_
 refine Q.nt<|Q.rg<|Q.mv U<|Q.as U<|Q.nt<|UW.ret<|?_
 exact bR [_] (λ_=>ak U U) (List.Sublist.refl _) λhd=>⟨rfl,rfl⟩
theorem J2(rows:List (List AV))(len:Nat)(Vh:len=rows.length)(hr:∀cs∈rows,cs.length=5)(i:Nat)(hi:i<rows.length)(hb:rows.length<=1000000)(id:Nat)(H:Hp)(hH:H id=none):
 au Tryz.prog 195 [.own id 0 len 5,.v (.int .i64 (i:Int)),.v (.int .i64 ((i+1:Nat):Int))] (aD H [(id,.row 26 5 rows)])
  (λu H'=>u=.own id 0 (len-1) 5/\H'=aD H [(id,.row 26 5 (cutAt rows i++[[.v (.int .i64 0),.v (.int .i64 0),.v (.string ⟨#[]⟩),.v (.slice none 0 0),.v (.slice none 0 0)]]))]):=by
 subst Vh
 refine aF (n:=33) (H0:=H) (I:=[(id,.row 26 5 rows)]) Tryz.func195 (by kernel_rfl) U (by rw[Tryz.ntmps195];rfl) (.cons hH .nil)<|?_
 refine Q.rg<|Q.as U<|Q.nt<|Q.rg<|Q.mv U<|Q.mv U<|Q.mv U<|Q.mv U<|US.iQ U (by decide) U U bP U<|US.qs U (by decide) (QS.uz U U bP U U U U (by omega) (by omega) (by omega))<|Q.nt<|UW.seq<|Q.rg<|?_
 have hne:¬((i:Int)=(i:Int)+1):=by omega
 refine Q.mv U<|Q.mv U<|US.aA U (by decide) U U U U (r:=.bool false) (by(simp[eT,fe,hne];done))<|?_
 refine Q.nt<|UW.cond U (λh=>absurd h (by simp)) λ_=>?_
 refine UW.skip<|UQ.then<|Q.rg<|Q.mv U<|US.iQ U (by decide) U U bP U<|Q.as U<|Q.nt<|UW.seq<|?_
 refine' UW.bG (by kernel_rfl) [0,0,3,0,0,24,63,127] [some 20,some 21,some 22,some 23,some 24,some 25,none,none] [some (20,_),some (21,_),some (22,_),some (23,_),some (24,_),some (25,_),none,none] [6,7] [] U (by decide) (by decide) (M.free (by decide) U U ?q0 (M.free (by decide) U U ?q1 (M.free (by decide) U U ?q2 (M.free (by decide) U U ?q3 (M.free (by decide) U U ?q4 (M.free (by decide) U U ?q5 (M.skip (M.skip M.nil)))))))) ?k
 case q0=>exact QF.move rfl rfl rfl
 case q1=>exact QF.move rfl rfl rfl
 case q2=>exact QF.kR rfl rfl bP rfl (.hi rfl) (by omega) (by omega)
 case q3=>exact QF.move rfl rfl rfl
 case q4=>exact QF.move rfl rfl rfl
 case q5=>exact QF.kR rfl rfl bP rfl (.lo rfl) (by omega) (by omega)
 refine CH.cons U U (by decide)<|DS.xS U U jw U U (k:=0) U (.own (k:=0) U (by omega) U) (by rw[List.length_take,List.length_drop];omega) U U<|?_
 refine CH.cons U U (by decide)<|DS.qs (by exact QS.assign U U U)<|?_
 refine CH.nil<|?_
 simp only[app,bS]
 have e0:i-0+(List.take (rows.length-(i+1)) (List.drop (0+(i+1)) rows)).length=rows.length-1:=by rw[List.length_take,List.length_drop];omega
 have e1:List.take (i-0) rows++List.take (rows.length-(i+1)) (List.drop (0+(i+1)) rows)=cutAt rows i:=by
  rw[Nat.zero_add,List.take_of_length_le (l:=List.drop (i+1) rows) (by rw[List.length_drop];omega)];rfl
 have hcl:=lZ hi
 have hlen:(cutAt rows i++List.drop (rows.length-1) rows).length=rows.length:=by rw[List.length_append,hcl,List.length_drop];omega
 rw[e0,e1]
 refine UQ.then<|Q.rg<|Q.mv U<|Q.mv U<|US.iQ U (by decide) U U bP U<|Q.mv U<|US.pQ U (by decide) U U bP U (k:=0) U U U (by omega) (by rw[hlen];omega)<|?_
 refine US.clear U U U jw U (k:=0) U (by rw[hlen];omega) z26 U (Fh rows i _ hi (rows.length-1) U _ U _ U _ U) U<|?_
 refine Q.nt<|Q.rg<|Q.mv U<|Q.as U<|Q.nt<|UW.ret<|?_
 exact bR [_] (λ_=>ak U U) (List.Sublist.refl _) λhd=>⟨rfl,rfl⟩
def zeroV:V:=.mk 0 0 ⟨#[]⟩ [] []
def aH(x:V)(key:ByteArray):V×Bool:=match pl x key with
 |some i=>(x.vs.getD i zeroV,true)
 |none=>(zeroV,false)
theorem getD_at{α:Type}{l:List α}{i:Nat}{z:α}(h:i<l.length):l.getD i z=l[i]:=by simp[List.getD,h]
theorem fI{α:Type}{l:List α}{i:Nat}{z:α}(h:i<l.length):l.getD i z∈l:=by rw[getD_at h];exact List.getElem_mem h
theorem M7(l:List V)(i:Nat)(h:i<l.length):(bu l)[((i:Nat):Int).toNat]? =some (aC (l.getD i zeroV)):=by
 rw[Int.toNat_natCast,gH l i h,getD_at h]
theorem tq(x:V)(hx:Fits x)(s:ByteArray)(H:Hp):
 au Tryz.prog 63 [.agg (aC x),.v (.string s)] H (bB H (.kX [.agg (aC (aH x s).1),.v (.bool (aH x s).2)])):=by
 obtain⟨k,n,t,ks,vs⟩:=x
 refine aF (n:=19) (H0:=H) (I:=[]) Tryz.func63 (by kernel_rfl) U (by rw[Tryz.ntmps63];rfl) .nil<|?_
 refine Q.rg<|US.box U (by decide) U U U U (by rfl) λp2=>?_
 refine US.oK U (by decide) U U z26 U U U U λp4=>Q.as U<|Q.nt<|Q.rg<|US.dV U (by decide) U U av U (k:=1) U (by rfl)<|?_
 refine Q.mv U<|US.dL U (by decide) U U U U (λ_=>qy _ s hx _)<|Q.as U<|Q.nt<|UW.seq<|Q.rg<|?_
 cases hp:pl (.mk k n t ks vs) s with
 |none=>
  have hg:aH (.mk k n t ks vs) s=(zeroV,false):=by unfold aH;rw[hp]
  rw[hg]
  refine Q.mv U<|Q.bi U U U<|Q.nt<|?_
  refine UW.cond U (λ_=>?_) (λh=>absurd h (by simp[oi]))
  refine Q.rg<|US.Ca [] U (by decide) U U gU U U U U U U U U<|US.dw U U U av U (k:=0) U (by rfl) U U (by rfl) (by rfl) U<|?_
  refine Q.as U<|Q.nt<|UW.ret<|UQ.ax<|?_
  exact bR [] (λhd=>gF U (jX (k:=0) hd U U gQ gT) (bJ U)) (by simp) λhd=>⟨rfl,rfl⟩
 |some i=>
  obtain⟨hlt,_,_⟩:=Fg hp
  simp only[V.vs] at hlt
  have hg:aH (.mk k n t ks vs) s=(vs.getD i zeroV,true):=by unfold aH;rw[hp];rfl
  rw[hg]
  refine Q.mv U<|Q.bi U U U<|Q.nt<|UW.cond U (λh=>absurd (of_decide_eq_true h) (by simp only[oi];omega)) λ_=>?_
  refine UW.skip<|UQ.then<|Q.rg<|US.fieldAddr U (by decide) U U U bU<|Q.lc 1 dR U U U<|Q.mv U<|US.bM U (by decide) U U bP U U (by simp[oi]) (M7 _ i hlt) (Y _)<|?_
  refine US.gp U (by decide) U U U av (by exact Y _)<|?_
  refine US.dL U (by decide) U U U U (λ_=>jF (kT _ (hx.vs _ (fI hlt)) _))<|US.dw U U U av U (k:=0) U (by rfl) U U (by exact az _) (by exact Y _) U<|?_
  refine Q.as U<|Q.nt<|UW.ret<|?_
  exact bR [] (λhd=>gF U (jX (k:=0) hd U U gQ (by rw[Y];exact gT)) (bJ U)) (by simp) λhd=>⟨rfl,rfl⟩
def bq(x:V)(key:ByteArray):V:=match pl x key with
 |some i=> .mk x.k x.n x.t (cutAt (cutV x).ks i) (cutAt (cutV x).vs i)
 |none=>x
def M8(H:Hp)(x:V)(u:AV)(H':Hp):Prop:=∃news,aP H news/\H'=aD H news/\∃i j rk rv,u=.agg [.v (.int .i64 x.k),.v (.int .i64 x.n),.v (.string x.t),.own i 0 x.ks.length 1,.own j 0 x.vs.length 5]/\news=[(j,.row 26 5 rv),(i,.row 9 1 rk)]/\
 x.ks.length<=rk.length/\rk.take x.ks.length=x.ks.map encS/\x.vs.length<=rv.length/\rv.take x.vs.length=bu x.vs
theorem Vi{H:Hp}{news:List (Nat×Ob)}(hd:aP H news){k i len:Nat}{rows rs:List (List AV)}{e sz:Nat}(h:news[k]? =some (i,.row e sz rows))(hl:len<=rows.length)(hr:rows.take len=rs):bO (aD H news) (.own i 0 len sz) H (.sl rs):=by
 have h1:=bO.own (off:=0) (len:=len) (rows':=rows) (lC hd) (hd.at_ h) (hd.base h) (by omega) U (λi cs cs' h1 h2=>by
  rw[h1] at h2;cases h2
  exact⟨rfl,λj u u' h3 h4=>by rw[h3] at h4;cases h4;exact bO.drop (lC hd) u⟩)
 rw[<-hr]
 simpa using h1
theorem xW{P:Program}{f:Nat}{us:List AV}{H:Hp}{x:V}(h:au P f us H (M8 H x)):au P f us H (bB H (.agg (aC x))):=by
 refine h.post<|?_
 rintro u H1 ⟨news,hd,rfl,i,j,rk,rv,rfl,rfl,h1,h2,h3,h4⟩
 refine⟨.agg (aC x),H,lC hd,?_,rfl,rfl⟩
 obtain⟨k,n,t,ks,vs⟩:=x
 simp only[aC,V.k,V.n,V.t,V.ks,V.vs] at hd h1 h2 h3 h4⊢
 exact Ff (lC hd) (Vi hd (k:=1) U h1 h2) (Vi hd (k:=0) U h3 h4)
theorem xX{α β:Type}(f:α->β)(l:List α)(i:Nat):(cutAt l i).map f=cutAt (l.map f) i:=by unfold cutAt;rw[List.map_append,List.map_take,List.map_drop]
theorem AL(x:V)(hx:Fits x)(s:ByteArray)(H:Hp):
 au Tryz.prog 148 [.agg (aC x),.v (.string s)] H (bB H (.agg (aC (bq x s)))):=by
 obtain⟨k,n,t,ks,vs⟩:=x
 cases hp:pl (.mk k n t ks vs) s with
 |none=>
  have hg:bq (.mk k n t ks vs) s=.mk k n t ks vs:=by unfold bq;rw[hp]
  rw[hg]
  refine aF (n:=30) (H0:=H) (I:=[]) Tryz.func148 (by kernel_rfl) U (by rw[Tryz.ntmps148];rfl) .nil<|?_
  refine Q.rg<|US.box U (by decide) U U U U (by rfl) λp2=>?_
  refine US.oK U (by decide) U U z26 U U U U λp4=>Q.nt<|Q.rg<|US.dV U (by decide) U U av U (k:=1) U (by rfl)<|?_
  refine Q.mv U<|US.dL U (by decide) U U U U (λ_=>qy _ s hx _)<|Q.as U<|Q.nt<|UW.seq<|Q.rg<|Q.mv U<|Q.bi U U U<|Q.nt<|?_
  rw[hp]
  refine UW.cond U (λ_=>?_) (λh=>absurd h (by simp[oi]))
  refine Q.rg<|US.dV U (by decide) U U av U (k:=1) U (by rfl)<|?_
  refine US.dL U (by decide) U U U U (λ_=>jF (kT _ hx _))<|US.dw U U U av U (k:=0) U (by rfl) U U (by rfl) (by rfl) U<|?_
  refine Q.nt<|UW.ret<|UQ.ax<|?_
  exact bR [] (λhd=>aX (k:=0) hd U U U gQ gT) (by simp) λhd=>⟨rfl,rfl⟩
 |some i=>
  obtain⟨hlt,hlk,_⟩:=Fg hp
  simp only[V.vs] at hlt
  simp only[V.ks] at hlk
  have hg:bq (.mk k n t ks vs) s=.mk k n t (cutAt (cutV (.mk k n t ks vs)).ks i) (cutAt (cutV (.mk k n t ks vs)).vs i):=by unfold bq;rw[hp];rfl
  rw[hg]
  have hcf:Fits (cutV (.mk k n t ks vs)):=hx.cut
  have hck:i<(cutV (.mk k n t ks vs)).ks.length:=by simp only[cutV,V.ks,V.vs,List.length_take];omega
  have hcv:i<(cutV (.mk k n t ks vs)).vs.length:=by simp only[cutV,V.ks,V.vs,List.length_take];omega
  have hbv:=hcf.Xn
  refine xW<|aF (n:=30) (H0:=H) (I:=[]) Tryz.func148 (by kernel_rfl) U (by rw[Tryz.ntmps148];rfl) .nil<|?_
  refine Q.rg<|US.box U (by decide) U U U U (by rfl) λp2=>?_
  refine US.oK U (by decide) U U z26 U U U U λp4=>Q.nt<|Q.rg<|US.dV U (by decide) U U av U (k:=1) U (by rfl)<|?_
  refine Q.mv U<|US.dL U (by decide) U U U U (λ_=>qy _ s hx _)<|Q.as U<|Q.nt<|UW.seq<|Q.rg<|Q.mv U<|Q.bi U U U<|Q.nt<|?_
  rw[hp]
  simp only[oi]
  refine UW.cond U (λh=>absurd (of_decide_eq_true h) (by omega)) λ_=>UW.skip<|UQ.then<|Q.rg<|US.dV U (by decide) U U av U (k:=1) U (by rfl)<|?_
  refine US.mE U (by decide) U U U U (λ_=>wR _ hx _) ?_;rintro _ _ ⟨pi,pj,rfl,rfl⟩
  refine US.dw U U U av U (k:=3) U (by rfl) U U (by rfl) (by rfl) U<|?_
  refine Q.nt<|Q.rg<|US.fieldAddr U (by decide) U U U dJ<|Q.lc 3 dB U U U<|Q.mv U<|Q.mv U<|US.add U (by decide) U U U U (r:=((i+1:Nat):Int)) (IntWalk.i64_in _ (by omega))<|US.MV 1 U (by decide) U U U U U (λG hG=>JZ _ _ (List.length_map ..).symm (j5 _) i (by rw[List.length_map];exact hck) (by rw[List.length_map];exact hcf.XG) pi G hG) U<|?_
  refine US.fieldAddr U (by decide) U U U dJ<|US.gu U U U dB U (k:=3) U U U (by rfl) (by rfl) U U<|?_
  refine Q.nt<|Q.rg<|US.fieldAddr U (by decide) U U U bU<|Q.lc 3 dR U U U<|Q.mv U<|Q.mv U<|US.add U (by decide) U U U U (r:=((i+1:Nat):Int)) (IntWalk.i64_in _ (by omega))<|US.MV 0 U (by decide) U U U U U (λG hG=>J2 _ _ (aS _).symm (jR _) i (by rw[aS];exact hcv) (by rw[aS];exact hcf.Xn) pj G hG) U<|?_
  refine US.fieldAddr U (by decide) U U U bU<|US.gu U U U dR U (k:=3) U U U (by rfl) (by rfl) U U<|?_
  refine Q.nt<|Q.rg<|US.dV U (by decide) U U av U (k:=3) U (by rfl)<|?_
  refine US.dw U U U av U (k:=2) U (by rfl) U U (by rfl) (by rfl) U<|?_
  refine Q.nt<|UW.ret<|?_
  simp only[List.set_cons_succ,List.set_cons_zero,List.cons_append,List.nil_append]
  refine bR [_,_] (λhd=>aX (k:=2) hd U U U gQ gT) (.cons_cons _ (.cons_cons _ (List.nil_sublist _))) λhd=>?_
  have e1:=lZ hck
  have e2:=lZ hcv
  have e3:(cutAt ((cutV (.mk k n t ks vs)).ks.map encS) i).length=(cutV (.mk k n t ks vs)).ks.length-1:=by rw[<-xX,List.length_map,e1]
  have e4:(cutAt (bu (cutV (.mk k n t ks vs)).vs) i).length=(cutV (.mk k n t ks vs)).vs.length-1:=by rw[eX,<-xX,List.length_map,e2]
  refine⟨_,hd,rfl,pi,pj,_,_,?_,rfl,?_,?_,?_,?_⟩
  ·show _=AV.agg [_,_,_,.own pi 0 (cutAt (cutV (.mk k n t ks vs)).ks i).length 1,.own pj 0 (cutAt (cutV (.mk k n t ks vs)).vs i).length 5]
   rw[e1,e2];rfl
  ·show(cutAt (cutV (.mk k n t ks vs)).ks i).length<=_
   rw[List.length_append,e3,e1];omega
  ·show List.take (cutAt (cutV (.mk k n t ks vs)).ks i).length _=(cutAt (cutV (.mk k n t ks vs)).ks i).map encS
   rw[e1,<-e3,List.take_left,xX]
  ·show(cutAt (cutV (.mk k n t ks vs)).vs i).length<=_
   rw[List.length_append,e4,e2];omega
  ·show List.take (cutAt (cutV (.mk k n t ks vs)).vs i).length _=bu (cutAt (cutV (.mk k n t ks vs)).vs i)
   rw[e2,<-e4,List.take_left,eX,eX,xX]
def eB{α:Type}(l:List α)(i:Nat)(x:α):List α:=l.take i++x::l.drop i
theorem RH{H:Hp}{i j:Nat}{a b:Ob}{r:List (Nat×Ob)}(h:aP H ((i,a)::(j,b)::r)):i≠j:=by
 cases h with
 |cons h1 _=>exact Ne.symm ((pO h1).2 (j,b) (by simp))
def InsR(e sz:Nat)(rows:List (List AV))(i:Nat)(x:List AV)(u:AV)(news:List (Nat×Ob)):Prop:=∃id',u=.own id' 0 (rows.length+1) sz/\news=[(id',.row e sz (eB rows i x))]
theorem dA{α:Type}(l:List α)(i:Nat)(x:α)(hi:i<=l.length):(eB l i x).length=l.length+1:=by unfold eB;simp;omega
theorem RI{α:Type}(l:List α)(i:Nat)(x:α)(h:i=l.length):l.take l.length++[x]=eB l i x:=by subst h;simp[eB]
theorem RJ{α:Type}(l:List α)(i:Nat)(x z:α)(h:i<=l.length):(l.take i++List.replicate (l.length+1-i) z).take (0+i)++[x]++(l.take i++List.replicate (l.length+1-i) z).drop (0+i+1)=l.take i++x::List.replicate (l.length-i) z:=by
 have e1:(l.take i).length=i:=by rw[List.length_take];omega
 rw[Nat.zero_add,List.take_left' e1,List.drop_append,e1,List.drop_of_length_le (by omega),List.nil_append,List.drop_replicate]
 have:l.length+1-i-(i+1-i)=l.length-i:=by omega
 rw[this];simp
theorem RL{α:Type}(l:List α)(i:Nat)(x z:α)(h:i<=l.length):(l.take i++x::List.replicate (l.length-i) z).take (0+(i+1))++(l.drop (0+i)).take (l.length-i)++(l.take i++x::List.replicate (l.length-i) z).drop (0+(i+1)+(l.length-i))=eB l i x:=by
 have e1:(l.take i).length=i:=by rw[List.length_take];omega
 have e2:l.take i++x::List.replicate (l.length-i) z=(l.take i++[x])++List.replicate (l.length-i) z:=by simp
 have e3:(l.take i++x::List.replicate (l.length-i) z).drop (0+(i+1)+(l.length-i))=[]:=List.drop_eq_nil_of_le (by(simp;omega))
 have e4:(l.drop (0+i)).take (l.length-i)=l.drop i:=by rw[Nat.zero_add];exact List.take_of_length_le (by rw[List.length_drop];omega)
 rw[e3,e4,e2,Nat.zero_add,List.take_left' (by(simp;omega))]
 simp[eB]
theorem IL{α:Type}(l:List α)(i:Nat)(h:i<l.length):l.take (0+(i+1))++(l.drop (0+i)).take (l.length-i)++l.drop (0+(i+1)+(l.length-i))=l.take (i+1)++l.drop i:=by
 have e3:l.drop (0+(i+1)+(l.length-i))=[]:=List.drop_eq_nil_of_le (by omega)
 have e4:(l.drop (0+i)).take (l.length-i)=l.drop i:=by rw[Nat.zero_add];exact List.take_of_length_le (by rw[List.length_drop];omega)
 rw[e3,e4,Nat.zero_add,List.append_nil]
theorem M9{α:Type}(l:List α)(i:Nat)(x:α)(h:i<l.length):(l.take (i+1)++l.drop i).take (0+i)++[x]++(l.take (i+1)++l.drop i).drop (0+i+1)=eB l i x:=by
 have e1:(l.take (i+1)).length=i+1:=by rw[List.length_take];omega
 rw[Nat.zero_add,List.take_append_of_le_length (by omega),List.take_take,Nat.min_eq_left (by omega),List.drop_left' e1]
 simp[eB]
theorem J3(rows:List (List AV))(hr:∀cs∈rows,cs.length=1)(hb:rows.length<=1000000)(x:List AV)(hx1:x.length=1)(i:Nat)(hi:i<=rows.length)(id kP:Nat)(H:Hp)(hD:aP H [(id,.row 9 1 rows),(kP,.row 9 1 [x])]):
 au Tryz.prog 113 [.own id 0 rows.length 1,.v (.int .i64 (i:Int)),.own kP 0 1 1] (aD H [(id,.row 9 1 rows),(kP,.row 9 1 [x])])
  (λu H'=>∃news,aP H news/\H'=aD H news/\InsR 9 1 rows i x u news):=by
 have hne:id≠kP:=RH hD
 refine aF (n:=95) (H0:=H) (I:=[(id,.row 9 1 rows),(kP,.row 9 1 [x])]) Tryz.func113 (by kernel_rfl) U (by rw[Tryz.ntmps113];rfl) hD<|?_
 focus
  refine Q.rg<|Q.as U<|Q.nt<|Q.rg<|Q.mv U<|Q.mv U<|S.qu (Z.Ee aZ U (.lo U) (by omega) (by omega))<|Q.nt<|Q.rg<|Q.mv U<|S.qu (Z.OX aZ U)<|Q.as U<|Q.nt<|S.sq<|Q.rg<|Q.mv U<|Q.bi U U U<|Q.nt<|S.cF U (gG (by omega))<|UW.skip<|UQ.then<|Q.rg<|Q.mv U<|S.qu (Z.OX aZ U)<|Q.as U<|Q.nt<|S.sq<|Q.rg<|Q.mv U<|Q.mv U<|Q.bi U U U<|Q.nt<|?_
  refine S.cE U (λhc0=>?_) (λhc0=>?_)
  refine Q.rg<|Q.mv U<|Q.mv U<|S.dd<|D.ap 0 dQ U U (by omega) U (.own (k:=1) (rs:=[x]) U (by simp) U) (by(simp;omega)) (RI rows i x (by omega)) λp25=>?_
  refine Q.as U<|Q.nt<|UW.ret<|UQ.ax<|?_
  rotate_left
  refine UW.skip<|UQ.then<|S.sq<|Q.rg<|Q.mv U<|Q.mv U<|S.qu (Z.add U U (IntWalk.i64_in _ (by omega)))<|Q.mv U<|S.dd<|D.cap 0 aZ U U (by omega) λc hc1 hc2 hc3=>Q.bi U U U<|Q.nt<|?_
  refine S.cD U (λhc1=>?_) (λhc1=>?_)
  refine Q.rg<|Q.mv U<|Q.mv U<|S.qu (Z.Ee aZ U (.hi U) (by omega) (by omega))<|Q.mv U<|Q.mv U<|S.qu (Z.add U U (IntWalk.i64_in _ (by omega)))<|Q.mv U<|S.qu (Z.sub (r:=((rows.length+1-i:Nat):Int)) U U (Eq.trans (IntWalk.i64_in _ (by omega)) (by omega)))<|S.dd<|D.apz 0 dQ Tryz.underlying3 U U U (by omega) (by omega) (by omega) (by omega) z9 U U λp40 hp40=>Q.as U<|Q.nt<|Q.rg<|Q.mv U<|Q.mv U<|S.qu (Z.Ee aZ U (.lo U) (by omega) (by omega))<|Q.mv U<|S.dd<|D.cpr 0 aZ U U U (by omega) (.of (.own (k:=2) (rs:=[x]) U (by simp) U) (m:=1) (by simp) U U) (m:=1) (by(simp[Nat.min_def];omega)) U (by(simp;omega)) (RJ rows i x _ hi)<|?_
  refine Q.nt<|S.sq<|?_
  refine' UW.bG (by kernel_rfl) [0,0,0,6,15,0,0,96,255] [some 46,some 47,some 48,some 49,some 50,some 51,some 52,some 53,none] [some (46,_),some (47,_),some (48,_),some (49,_),some (50,_),some (51,_),some (52,_),some (53,_),none] [8] [] U (by decide) (by decide) (M.free (by decide) U U ?q2_0 (M.free (by decide) U U ?q2_1 (M.free (by decide) U U ?q2_2 (M.free (by decide) U U ?q2_3 (M.free (by decide) U U ?q2_4 (M.free (by decide) U U ?q2_5 (M.free (by decide) U U ?q2_6 (M.free (by decide) U U ?q2_7 (M.skip M.nil))))))))) ?q2_k
  case q2_0=>(intro _;exact Z.mv rfl)
  case q2_1=>(intro _;exact Z.mv rfl)
  case q2_2=>(intro _;exact Z.mv rfl)
  case q2_3=>(intro _;exact Z.add (r:=((i+1:Nat):Int)) rfl rfl (Eq.trans (IntWalk.i64_in _ (by omega)) (by omega)))
  case q2_4=>(intro _;exact Z.Ee aZ rfl (.lo rfl) (by omega) (by omega))
  case q2_5=>(intro _;exact Z.mv rfl)
  case q2_6=>(intro _;exact Z.mv rfl)
  case q2_7=>(intro _;exact Z.Ee aZ rfl (.lo rfl) (by omega) (by omega))
  refine CH.cons U U (by decide)<|D.cpr 0 aZ U U U (by omega) (.jZ (k:=1) (m:=rows.length-i) U (by omega) (by omega) U) (m:=rows.length-i) (by(simp[Nat.min_def];omega)) (by(simp;done)) (by(simp;omega)) (RL rows i x _ hi)<|?_
  refine CH.nil<|?_
  simp only[app,bS]
  refine UQ.then<|Q.rg<|Q.mv U<|Q.as U<|Q.nt<|UW.ret<|UQ.ax<|?_
  rotate_left
  refine UW.skip<|UQ.then<|Q.rg<|Q.mv U<|Q.mv U<|Q.mv U<|S.qu (Z.add (r:=((rows.length+1:Nat):Int)) U U (Eq.trans (IntWalk.i64_in _ (by omega)) (by omega)))<|S.dd<|D.slr 0 aZ U U (by omega) (.hi U) (by simp) (by omega) (by omega)<|?_
  refine Q.as U<|Q.nt<|S.sq<|Q.rg<|Q.mv U<|Q.mv U<|Q.mv U<|Q.mv U<|S.qu (Z.add (r:=((i+1:Nat):Int)) U U (Eq.trans (IntWalk.i64_in _ (by omega)) (by omega)))<|S.qu (Z.Ee aZ U (.lo U) (by omega) (by omega))<|?_
  refine S.dd (D.ovl (tr:=4) 1 0 Tryz.func153 aZ U U U U U (Ne.symm hne) (by omega) (by omega) ?_ (by kernel_rfl))
  refine S.qu (Z.not U)<|Q.nt<|S.cT U U<|S.sq<|?_
  refine' UW.bG (by kernel_rfl) [0,0,0,6,15,0,0,96,255] [some 69,some 70,some 71,some 72,some 73,some 74,some 75,some 76,none] [some (69,_),some (70,_),some (71,_),some (72,_),some (73,_),some (74,_),some (75,_),some (76,_),none] [8] [] U (by decide) (by decide) (M.free (by decide) U U ?q3_0 (M.free (by decide) U U ?q3_1 (M.free (by decide) U U ?q3_2 (M.free (by decide) U U ?q3_3 (M.free (by decide) U U ?q3_4 (M.free (by decide) U U ?q3_5 (M.free (by decide) U U ?q3_6 (M.free (by decide) U U ?q3_7 (M.skip M.nil))))))))) ?q3_k
  case q3_0=>(intro _;exact Z.mv rfl)
  case q3_1=>(intro _;exact Z.mv rfl)
  case q3_2=>(intro _;exact Z.mv rfl)
  case q3_3=>(intro _;exact Z.add (r:=((i+1:Nat):Int)) rfl rfl (Eq.trans (IntWalk.i64_in _ (by omega)) (by omega)))
  case q3_4=>(intro _;exact Z.Ee aZ rfl (.lo rfl) (by omega) (by omega))
  case q3_5=>(intro _;exact Z.mv rfl)
  case q3_6=>(intro _;exact Z.mv rfl)
  case q3_7=>(intro _;exact Z.Ee aZ rfl (.lo rfl) (by omega) (by omega))
  refine CH.cons U U (by decide)<|D.cpc 0 aZ U U U (by omega) (.jZ (k:=0) (m:=rows.length-i) U (by omega) (by omega) U) (m:=rows.length-i) (by(simp[Nat.min_def];omega)) (by(simp;done)) (by omega) (by omega) (IL rows i (by omega))<|?_
  refine CH.nil<|?_
  simp only[app,bS]
  refine UQ.then<|Q.rg<|Q.mv U<|Q.mv U<|S.qu (Z.Ee aZ U (.lo U) (by omega) (by omega))<|Q.mv U<|S.dd<|D.cpc 0 aZ U U U (by omega) (.of (.own (k:=1) (rs:=[x]) U (by simp) U) (m:=1) (by simp) U U) (m:=1) (by(simp[Nat.min_def];omega)) U (by(simp;omega)) (by omega) (M9 rows i x (by omega))<|?_
  refine Q.nt<|Q.rg<|Q.mv U<|Q.as U<|?_
  refine US.retag 6 0 U U (by omega) (λid'=>?_)
  refine Q.nt<|UW.ret<|UQ.ax<|?_
  rotate_left
 all_goals exact bR [_] (λ_=>ak U U) (.cons_cons _ (List.nil_sublist _)) λhd=>⟨_,hd,rfl,_,by first|rfl|(congr 1;omega),rfl⟩
theorem J4(rows:List (List AV))(hr:∀cs∈rows,cs.length=5)(hb:rows.length<=1000000)(x:List AV)(hx1:x.length=5)(i:Nat)(hi:i<=rows.length)(id kP:Nat)(H:Hp)(hD:aP H [(id,.row 26 5 rows),(kP,.row 26 5 [x])]):
 au Tryz.prog 114 [.own id 0 rows.length 5,.v (.int .i64 (i:Int)),.own kP 0 1 5] (aD H [(id,.row 26 5 rows),(kP,.row 26 5 [x])])
  (λu H'=>∃news,aP H news/\H'=aD H news/\InsR 26 5 rows i x u news):=by
 have hne:id≠kP:=RH hD
 refine aF (n:=95) (H0:=H) (I:=[(id,.row 26 5 rows),(kP,.row 26 5 [x])]) Tryz.func114 (by kernel_rfl) U (by rw[Tryz.ntmps114];rfl) hD<|?_
 focus
  refine Q.rg<|Q.as U<|Q.nt<|Q.rg<|Q.mv U<|Q.mv U<|S.qu (Z.Ee bP U (.lo U) (by omega) (by omega))<|Q.nt<|Q.rg<|Q.mv U<|S.qu (Z.OX bP U)<|Q.as U<|Q.nt<|S.sq<|Q.rg<|Q.mv U<|Q.bi U U U<|Q.nt<|S.cF U (gG (by omega))<|UW.skip<|UQ.then<|Q.rg<|Q.mv U<|S.qu (Z.OX bP U)<|Q.as U<|Q.nt<|S.sq<|Q.rg<|Q.mv U<|Q.mv U<|Q.bi U U U<|Q.nt<|?_
  refine S.cE U (λhc0=>?_) (λhc0=>?_)
  refine Q.rg<|Q.mv U<|Q.mv U<|S.dd<|D.ap 0 jw U U (by omega) U (.own (k:=1) (rs:=[x]) U (by simp) U) (by(simp;omega)) (RI rows i x (by omega)) λp25=>?_
  refine Q.as U<|Q.nt<|UW.ret<|UQ.ax<|?_
  rotate_left
  refine UW.skip<|UQ.then<|S.sq<|Q.rg<|Q.mv U<|Q.mv U<|S.qu (Z.add U U (IntWalk.i64_in _ (by omega)))<|Q.mv U<|S.dd<|D.cap 0 bP U U (by omega) λc hc1 hc2 hc3=>Q.bi U U U<|Q.nt<|?_
  refine S.cD U (λhc1=>?_) (λhc1=>?_)
  refine Q.rg<|Q.mv U<|Q.mv U<|S.qu (Z.Ee bP U (.hi U) (by omega) (by omega))<|Q.mv U<|Q.mv U<|S.qu (Z.add U U (IntWalk.i64_in _ (by omega)))<|Q.mv U<|S.qu (Z.sub (r:=((rows.length+1-i:Nat):Int)) U U (Eq.trans (IntWalk.i64_in _ (by omega)) (by omega)))<|S.dd<|D.apz 0 jw Tryz.underlying3 U U U (by omega) (by omega) (by omega) (by omega) z26 U U λp40 hp40=>Q.as U<|Q.nt<|Q.rg<|Q.mv U<|Q.mv U<|S.qu (Z.Ee bP U (.lo U) (by omega) (by omega))<|Q.mv U<|S.dd<|D.cpr 0 bP U U U (by omega) (.of (.own (k:=2) (rs:=[x]) U (by simp) U) (m:=1) (by simp) U U) (m:=1) (by(simp[Nat.min_def];omega)) U (by(simp;omega)) (RJ rows i x _ hi)<|?_
  refine Q.nt<|S.sq<|?_
  refine' UW.bG (by kernel_rfl) [0,0,0,6,15,0,0,96,255] [some 46,some 47,some 48,some 49,some 50,some 51,some 52,some 53,none] [some (46,_),some (47,_),some (48,_),some (49,_),some (50,_),some (51,_),some (52,_),some (53,_),none] [8] [] U (by decide) (by decide) (M.free (by decide) U U ?q2_0 (M.free (by decide) U U ?q2_1 (M.free (by decide) U U ?q2_2 (M.free (by decide) U U ?q2_3 (M.free (by decide) U U ?q2_4 (M.free (by decide) U U ?q2_5 (M.free (by decide) U U ?q2_6 (M.free (by decide) U U ?q2_7 (M.skip M.nil))))))))) ?q2_k
  case q2_0=>(intro _;exact Z.mv rfl)
  case q2_1=>(intro _;exact Z.mv rfl)
  case q2_2=>(intro _;exact Z.mv rfl)
  case q2_3=>(intro _;exact Z.add (r:=((i+1:Nat):Int)) rfl rfl (Eq.trans (IntWalk.i64_in _ (by omega)) (by omega)))
  case q2_4=>(intro _;exact Z.Ee bP rfl (.lo rfl) (by omega) (by omega))
  case q2_5=>(intro _;exact Z.mv rfl)
  case q2_6=>(intro _;exact Z.mv rfl)
  case q2_7=>(intro _;exact Z.Ee bP rfl (.lo rfl) (by omega) (by omega))
  refine CH.cons U U (by decide)<|D.cpr 0 bP U U U (by omega) (.jZ (k:=1) (m:=rows.length-i) U (by omega) (by omega) U) (m:=rows.length-i) (by(simp[Nat.min_def];omega)) (by(simp;done)) (by(simp;omega)) (RL rows i x _ hi)<|?_
  refine CH.nil<|?_
  simp only[app,bS]
  refine UQ.then<|Q.rg<|Q.mv U<|Q.as U<|Q.nt<|UW.ret<|UQ.ax<|?_
  rotate_left
  refine UW.skip<|UQ.then<|Q.rg<|Q.mv U<|Q.mv U<|Q.mv U<|S.qu (Z.add (r:=((rows.length+1:Nat):Int)) U U (Eq.trans (IntWalk.i64_in _ (by omega)) (by omega)))<|S.dd<|D.slr 0 bP U U (by omega) (.hi U) (by simp) (by omega) (by omega)<|?_
  refine Q.as U<|Q.nt<|S.sq<|Q.rg<|Q.mv U<|Q.mv U<|Q.mv U<|Q.mv U<|S.qu (Z.add (r:=((i+1:Nat):Int)) U U (Eq.trans (IntWalk.i64_in _ (by omega)) (by omega)))<|S.qu (Z.Ee bP U (.lo U) (by omega) (by omega))<|?_
  refine S.dd (D.ovl (tr:=4) 1 0 Tryz.func155 bP U U U U U (Ne.symm hne) (by omega) (by omega) ?_ (by kernel_rfl))
  refine S.qu (Z.not U)<|Q.nt<|S.cT U U<|S.sq<|?_
  refine' UW.bG (by kernel_rfl) [0,0,0,6,15,0,0,96,255] [some 69,some 70,some 71,some 72,some 73,some 74,some 75,some 76,none] [some (69,_),some (70,_),some (71,_),some (72,_),some (73,_),some (74,_),some (75,_),some (76,_),none] [8] [] U (by decide) (by decide) (M.free (by decide) U U ?q3_0 (M.free (by decide) U U ?q3_1 (M.free (by decide) U U ?q3_2 (M.free (by decide) U U ?q3_3 (M.free (by decide) U U ?q3_4 (M.free (by decide) U U ?q3_5 (M.free (by decide) U U ?q3_6 (M.free (by decide) U U ?q3_7 (M.skip M.nil))))))))) ?q3_k
  case q3_0=>(intro _;exact Z.mv rfl)
  case q3_1=>(intro _;exact Z.mv rfl)
  case q3_2=>(intro _;exact Z.mv rfl)
  case q3_3=>(intro _;exact Z.add (r:=((i+1:Nat):Int)) rfl rfl (Eq.trans (IntWalk.i64_in _ (by omega)) (by omega)))
  case q3_4=>(intro _;exact Z.Ee bP rfl (.lo rfl) (by omega) (by omega))
  case q3_5=>(intro _;exact Z.mv rfl)
  case q3_6=>(intro _;exact Z.mv rfl)
  case q3_7=>(intro _;exact Z.Ee bP rfl (.lo rfl) (by omega) (by omega))
  refine CH.cons U U (by decide)<|D.cpc 0 bP U U U (by omega) (.jZ (k:=0) (m:=rows.length-i) U (by omega) (by omega) U) (m:=rows.length-i) (by(simp[Nat.min_def];omega)) (by(simp;done)) (by omega) (by omega) (IL rows i (by omega))<|?_
  refine CH.nil<|?_
  simp only[app,bS]
  refine UQ.then<|Q.rg<|Q.mv U<|Q.mv U<|S.qu (Z.Ee bP U (.lo U) (by omega) (by omega))<|Q.mv U<|S.dd<|D.cpc 0 bP U U U (by omega) (.of (.own (k:=1) (rs:=[x]) U (by simp) U) (m:=1) (by simp) U U) (m:=1) (by(simp[Nat.min_def];omega)) U (by(simp;omega)) (by omega) (M9 rows i x (by omega))<|?_
  refine Q.nt<|Q.rg<|Q.mv U<|Q.as U<|?_
  refine US.retag 6 0 U U (by omega) (λid'=>?_)
  refine Q.nt<|UW.ret<|UQ.ax<|?_
  rotate_left
 all_goals exact bR [_] (λ_=>ak U U) (.cons_cons _ (List.nil_sublist _)) λhd=>⟨_,hd,rfl,_,by first|rfl|(congr 1;omega),rfl⟩
def ints(l:List Int):AV:=.sl (l.map encI)
theorem Vj(l:List Int)(k:Nat)(h:k<l.length):(l.map encI)[((k:Nat):Int).toNat]? =some (encI l[k]):=by rw[Int.toNat_natCast,List.getElem?_map,List.getElem?_eq_getElem h];rfl
theorem Tc{α:Type}(g:α->Int)(l:List α)(k:Nat)(h:k<l.length):((l.map g).map encI).take k++[encI (g l[k])]=((l.map g).map encI).take (k+1):=by
 rw[List.take_add_one,List.getElem?_map,List.getElem?_map,List.getElem?_eq_getElem h];rfl
def J5:List Int->Int
 |[]=>0
 |a::r=>r.foldl (λm c=>if c>m then c else m) a
mutual
def cZ:V->Int
 | .mk k _ _ _ vs=>if k=4\/k=5 then 1+J5 (ze vs++[0]) else 0
def ze:List V->List Int
 |[]=>[]
 |x::r=>cZ x::ze r
end
theorem xY:∀l:List V,ze l=l.map cZ
 |[]=>rfl
 |x::r=>by rw[ze,xY r];rfl
theorem uC{a:Int}:∀{r:List Int} {b:Int},b<=a->(∀c∈r,c<=a)->r.foldl (λm c=>if c>m then c else m) b<=a
 |[],_,h,_=>h
 |c::r,b,h,h2=>by
  simp only[List.foldl_cons]
  refine uC ?_ (λc' hc'=>h2 c' (by simp[hc']))
  split
  ·exact h2 c (by simp)
  ·exact h
theorem qz:∀{r:List Int} {b:Int},b<=r.foldl (λm c=>if c>m then c else m) b/\∀c∈r,c<=r.foldl (λm c=>if c>m then c else m) b
 |[],_=>⟨Int.le_refl _,by simp⟩
 |c::r,b=>by
  simp only[List.foldl_cons]
  have ih:=qz (r:=r) (b:=if c>b then c else b)
  refine⟨?_,λc' hc'=>?_⟩
  ·refine Int.le_trans ?_ ih.1
   split<;>omega
  ·rcases List.mem_cons.1 hc' with rfl|h
   ·refine Int.le_trans ?_ ih.1
    split<;>omega
   ·exact ih.2 c' h
theorem Ef{l:List Int}{c:Int}(h:c∈l):c<=J5 l:=by
 cases l with
 |nil=>simp at h
 |cons a r=>
  rcases List.mem_cons.1 h with rfl|h
  ·exact qz.1
  ·exact qz.2 c h
theorem AO(x:V):0<=cZ x:=by
 obtain⟨k,n,t,ks,vs⟩:=x
 unfold cZ
 split
 ·have:=Ef (l:=ze vs++[0]) (c:=0) (by simp)
  omega
 ·omega
theorem Vk{k n:Int}{t:ByteArray}{ks:List ByteArray}{vs:List V}{x:V}(h:k=4\/k=5)(hx:x∈vs):cZ x<cZ (.mk k n t ks vs):=by
 rw[show cZ (.mk k n t ks vs)=1+J5 (ze vs++[0]) from by rw[cZ,if_pos h]]
 have:=Ef (l:=ze vs++[0]) (c:=cZ x) (by rw[xY];exact List.mem_append_left _ (List.mem_map_of_mem hx))
 omega
def pre(s p:ByteArray):Bool:=decide (p.size<=s.size)&&(s.extract 0 p.size).toList==p.toList
def Fj(a b:ByteArray):Int:=Lib.compareBytes a.data.toList b.data.toList
theorem zf(s p:ByteArray)(H:Hp):
 au Tryz.prog 196 [.v (.string s),.v (.string p)] H (bB H (.v (.int .i64 (Fj s p)))):=by
 refine aF (n:=8) (H0:=H) (I:=[]) Tryz.func196 (by kernel_rfl) U (by rw[Tryz.ntmps196];rfl) .nil<|?_
 refine Q.rg<|Q.as U<|Q.nt<|Q.rg<|Q.mv U<|Q.mv U<|US.compare U (by decide) U U U Tryz.func236 (by kernel_rfl) (by kernel_rfl) (by kernel_rfl) (by kernel_rfl) U U<|Q.as U<|Q.nt<|UW.ret<|?_
 exact bR [] (λ_=>ak U U) (by simp) λhd=>⟨rfl,rfl⟩
theorem J6(s p:ByteArray)(H:Hp):
 au Tryz.prog 152 [.v (.string s),.v (.string p)] H (bB H (.v (.int .i64 (Fj s p)))):=by
 refine aF (n:=8) (H0:=H) (I:=[]) Tryz.func152 (by kernel_rfl) U (by rw[Tryz.ntmps152];rfl) .nil<|?_
 refine Q.rg<|Q.as U<|Q.nt<|Q.rg<|Q.mv U<|Q.mv U<|US.dL U (by decide) U U U U (λ_=>zf s p _)<|Q.as U<|Q.nt<|UW.ret<|?_
 exact bR [] (λ_=>ak U U) (by simp) λhd=>⟨rfl,rfl⟩
theorem Td(s p:ByteArray)(H:Hp):
 au Tryz.prog 112 [.v (.string s),.v (.string p)] H (bB H (.v (.bool (decide (Fj s p<0))))):=by
 refine aF (n:=9) (H0:=H) (I:=[]) Tryz.func112 (by kernel_rfl) U (by rw[Tryz.ntmps112];rfl) .nil<|?_
 refine Q.rg<|Q.as U<|Q.nt<|Q.rg<|Q.mv U<|Q.mv U<|US.dL U (by decide) U U U U (λ_=>J6 s p _)<|Q.bi U U U<|Q.as U<|Q.nt<|UW.ret<|?_
 exact bR [] (λ_=>ak U U) (by simp) λhd=>⟨rfl,rfl⟩
def Im:ByteArray:=⟨#[0xEF,0xBF,0xBD]⟩
def Na(s:ByteArray)(pos:Nat):Bool:=(Utf8.decode s pos).1==65533&&!(pre (s.extract pos s.size) Im)
def XH(s:ByteArray):Nat->Nat->Int
 |0,_=> -1
 |f+1,pos=>if pos<s.size then(if Na s pos then(pos:Int) else XH s f (pos+(Utf8.decode s pos).2)) else-1
def RN(s:ByteArray):Int:=XH s (s.size+1) 0
end Go.Proofs.YtonpfomjoiaacaaGreatDoor
end
