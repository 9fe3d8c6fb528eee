/- A part of the proof. -/
import Derived.Test.YtonpfomjoiaacaaGreatDoorMz24
import Derived.Test.YtonpfomjoiaacaaGreatDoorMz10
import Derived.ProofKit
import Derived.OpenShut
import Derived.ChangeSame
import Derived.ChangeSlices
set_option maxRecDepth 100000
set_option maxHeartbeats 4000000
set_option linter.unusedSectionVars false
set_option linter.unusedVariables false
set_option linter.unusedSimpArgs false
section
namespace Go.Proofs.YtonpfomjoiaacaaGreatDoor
open Go Go.fT Go.RowKit
theorem fM{a b:ByteArray}(h:a.toList=b.toList):a=b:=by
 rw[Lib.toList_data,Lib.toList_data] at h
 exact ByteArray.ext (Array.toList_inj.1 h)
theorem GA{l:List ByteArray}{s:ByteArray}{i:Nat}(h:cz l s=some i):l[i]? =some s:=by
 unfold cz at h
 obtain⟨h1,h2,_⟩:=List.findIdx?_eq_some_iff_getElem.1 h
 rw[List.getElem?_eq_getElem h1]
 congr 1
 exact(fM (by simpa using h2)).symm
theorem aaK{x:V}{key:ByteArray}{i:Nat}(h:pl x key=some i):x.ks[i]? =some key:=by
 unfold pl at h
 split at h
 ·cases hi:cz x.ks key with
  |none=>rw[hi] at h;simp at h
  |some j=>
   rw[hi] at h
   simp only at h
   split at h
   ·cases h;exact GA hi
   ·cases h
 ·cases h
theorem TJ{α:Type}(l:List α)(m i:Nat)(a:α)(hi:i<m)(h:l[i]? =some a):l.take i++[a]++(l.take m).drop (i+1)=l.take m:=by
 have hl:=(List.getElem?_eq_some_iff.1 h).1
 have hlm:i<(l.take m).length:=by rw[List.length_take];omega
 have e1:(l.take m)[i]=a:=by
  have:(l.take m)[i]? =some a:=by rw[List.getElem?_take,if_pos hi];exact h
  rw[List.getElem?_eq_getElem hlm] at this
  exact Option.some.inj this
 have e2:l.take i=(l.take m).take i:=by rw[List.take_take,Nat.min_eq_left (by omega)]
 rw[e2,List.append_assoc,List.singleton_append,<-e1,<-List.drop_eq_getElem_cons hlm,List.take_append_drop]
theorem take_set{α:Type}(l:List α)(m i:Nat)(a:α)(hi:i<m)(hl:i<l.length):l.take i++[a]++(l.take m).drop (i+1)=(l.take m).set i a:=by
 have hlm:i<(l.take m).length:=by rw[List.length_take];omega
 rw[List.set_eq_take_append_cons_drop,if_pos hlm,List.take_take,Nat.min_eq_left (by omega)]
 simp
theorem Lm{α:Type}(l:List α)(m i:Nat)(a:α)(hi:i<=m):l.take i++[a]++(l.take m).drop (i+0)=dO (l.take m) i a:=by
 unfold dO
 rw[List.take_take,Nat.min_eq_left hi];simp
theorem Lp{ks:List ByteArray}{key:ByteArray}{i:Nat}(h1:i<=ks.length)(h2:∀j (h:j<ks.length),j<i->dP ks[j] key=true)(h3:∀h:i<ks.length,dP ks[i] key=false):bQ ks key=i:=by
 unfold bQ rY
 by_cases hi:i<ks.length
 ·rw[(List.findIdx?_eq_some_iff_getElem).2 ⟨hi,by simp[h3 hi],λj hj=>by simp[h2 j (by omega) hj]⟩]
  show(if (i:Int)<0 then _ else(i:Int).toNat)=i
  rw[if_neg (by omega)];rfl
 ·rw[(List.findIdx?_eq_none_iff).2 (λx hx=>by
   obtain⟨j,hj,rfl⟩:=List.getElem_of_mem hx
   simp[h2 j hj (by omega)])]
  show(if (-1:Int)<0 then _ else _)=i
  rw[if_pos (by omega)];omega
theorem TK{x:V}{key:ByteArray}{y:V}{i:Nat}(h:pl x key=some i):N7 x i 1 [key] [y]=bH x key y:=by
 have h1:=Jo h
 have h2:=Dr h
 have e1:eP x=x:=by unfold eP;rw[if_pos h2.2.2]
 unfold bH N7
 rw[e1,h]
 simp only[cutV,yC,yD]
 rw[TJ _ _ _ _ (by omega) (aaK h),take_set _ _ _ _ (by omega) h2.1,h2.2.2]
theorem Lr{x:V}{key:ByteArray}{y:V}{i:Nat}(hk:x.k=5)(h:pl x key=none)(hi:i<=min x.ks.length x.vs.length)(h2:∀j (h:j<x.ks.length),j<i->dP x.ks[j] key=true)(h3:∀h:i<x.ks.length,i<min x.ks.length x.vs.length->dP x.ks[i] key=false):N7 x i 0 [key] [y]=bH x key y:=by
 have e1:eP x=x:=by unfold eP;rw[if_pos hk]
 have e2:bQ (x.ks.take (min x.ks.length x.vs.length)) key=i:=Lp (by rw[List.length_take];omega) (λj hj hji=>by rw[List.getElem_take];exact h2 j _ hji) (λhh=>by rw[List.getElem_take];exact h3 _ (by rw[List.length_take] at hh;omega))
 unfold bH N7
 rw[e1,h]
 simp only[cutV,yC,yD]
 rw[e2,Lm _ _ _ _ (by omega),Lm _ _ _ _ (by omega),hk]
theorem kJ(x:V)(hx:Fits x)(hks:∀s∈x.ks,s.size<=4000000)(key:ByteArray)(y:V)(H:Hp):au Tryz.prog 18 [.agg (aD x),.v (.string key),.agg (aD y)] H (bz H (.agg (aD (bH x key y)))):=by
 by_cases hk:x.k=5
 ·cases hp:pl x key with
  |some i=>
   rw[<-TK hp]
   have hmin:=Jo hp
   obtain⟨k,n,t,ks,vs⟩:=x
   simp only[V.k] at hk
   refine aF (n:=58) (H0:=H) (I:=[]) Tryz.func18 (by kernel_rfl) U (by rw[Tryz.ntmps18];rfl) .nil<|?_
   refine Q.rg<|S.dd<|D.box U U U λp3=>S.dd<|D.box U U (by exact aA _) λp5=>?_
   refine S.dd<|D.al z26 U U U λp6=>Q.nt<|S.sq<|Q.rg<|Q.fa bP U<|Q.lc 2 eQ U U U<|Q.bi U U U<|Q.nt<|S.cF U (nL (by omega))<|UW.skip<|UQ.then<|Q.rg<|S.qu (Z.dA 2 av U U U)<|Q.mv U<|S.qu (Z.call U U (λ_=>Aw hx hp _))<|Q.as U<|Q.nt<|S.sq<|Q.rg<|Q.mv U<|Q.bi U U U<|Q.nt<|S.cT U (decide_eq_true (by omega))<|Q.rg<|S.qu (Z.dA 2 av U U U)<|Q.mv U<|Q.mv U<|S.qu (Z.bl dV U U (bA U))<|S.qu (Z.dA 1 av U U (Y _))<|S.qu (Z.bl iP U U (by intro cs h;cases List.mem_singleton.1 h;exact⟨by exact aA _,by exact Y _⟩))<|?_
   refine S.qu (Z.call U U (λ_=>zg (.mk k n t ks vs) hx i 1 [key] [y] hmin (by simp) (by simp) _))<|?_
   refine S.s<|D.st 0 av U U U U U U U U λ_=>Q.nt<|UW.ret<|UQ.ax<|S.bK (λhd=>aU (k:=0) hd U U U fV fZ)<|?_
   rfl
  |none=>
   obtain⟨k,n,t,ks,vs⟩:=x
   simp only[V.k] at hk
   simp only[yC] at hks
   have wI:(ks.map encS).length=ks.length:=List.length_map ..
   have hvl:=aP vs
   have TI:=hx.VE
   have aaJ:=hx.Vl
   simp only[V.ks,V.vs] at TI aaJ
   refine aF (n:=58) (H0:=H) (I:=[]) Tryz.func18 (by kernel_rfl) U (by rw[Tryz.ntmps18];rfl) .nil<|?_
   refine Q.rg<|S.dd<|D.box U U U λp3=>S.dd<|D.box U U (by exact aA _) λp5=>?_
   refine S.dd<|D.al z26 U U U λp6=>Q.nt<|S.sq<|Q.rg<|Q.fa bP U<|Q.lc 2 eQ U U U<|Q.bi U U U<|Q.nt<|S.cF U (nL (by omega))<|UW.skip<|UQ.then<|Q.rg<|S.qu (Z.dA 2 av U U U)<|Q.mv U<|S.qu (Z.call U U (λ_=>Ay hx hp _))<|Q.as U<|Q.nt<|S.sq<|Q.rg<|Q.mv U<|Q.bi U U U<|Q.nt<|S.cF U (decide_eq_false (by omega))<|UW.skip<|UQ.then<|Q.rg<|Q.as U<|Q.nt<|Q.rg<|Q.fa dw U<|Q.lc 2 dD U U U<|S.qu (Z.fG aY U)<|Q.fa bO U<|Q.lc 2 dF U U U<|S.qu (Z.fG bM U)<|?_
   refine S.qu (Z.eq (u':=.v (.int .i64 ((min ks.length vs.length:Nat):Int))) (Z.min U U) (by rw[wI,hvl];congr 2;split<;>omega)) ?_
   refine Q.as U<|Q.nt<|S.sq<|UW.block<|S.loop (λj:Nat=>[(8,.v (.int .i64 (j:Int))),(9,.v (.int .i64 ((min ks.length vs.length:Nat):Int))),(1,.v (.string key)),(3,.ptr p3 0),(5,.ptr p5 0),(6,.ptr p6 0)]) (λ_=>[(p6,.box 26 (aD zeroV)),(p5,.box 26 (aD y)),(p3,.box 26 (aD (.mk k n t ks vs)))]) (λj=>j<=min ks.length vs.length/\∀i (h:i<ks.length),i<j->dP ks[i] key=true) (λj=>min ks.length vs.length-j) 0 ⟨Nat.zero_le _,λi _ h=>absurd h (by omega)⟩ ⟨rfl,rfl,rfl,rfl,rfl,rfl,trivial⟩ (.refl _)<|?_
   rintro j ⟨hj,hjj⟩
   by_cases hlt:j<min ks.length vs.length
   ·have hgl:=eD ks j (by omega)
    have hsz:=hks _ (List.getElem_mem (by omega:j<ks.length))
    cases hL:dP (ks[j]'(by omega)) key with
    |true=>
     focus
      refine S.sq<|Q.rg<|Q.mv U<|Q.mv U<|Q.bi U U U<|Q.mv U<|?_
      refine S.tD 40 (λTL=>?_) (λTL=>?_)
      rotate_left
      omega
      refine Q.on (Z.fa dw U)<|Q.on (Z.di 2 dD U U U)<|Q.on (Z.mv U)<|Q.on (Z.ia aY U U (by omega) (by assumption) (by rfl))<|?_
      refine Q.on (Z.fE ed U)<|Q.on (Z.mv U)<|Q.on (Z.eq (Z.call U U (λ_=>si _ _ hsz _)) (by rw[hL]))<|?_
      refine Q.pk U U<|Q.nt<|S.cT U U<|UW.skip<|UQ.then<|UW.block<|S.rg<|Q.mv U<|S.qu (Z.add (r:=((j+1:Nat):Int)) U U (IntWalk.i64_in _ (by omega)))<|Q.as U<|US.nil<|UQ.aB<|?_
      refine S.back _ ⟨rfl,rfl,rfl,rfl,rfl,rfl,trivial⟩ (.refl _) ?_ (by omega)
     refine⟨by omega,λi h3 h4=>?_⟩
     by_cases hij:i=j
     ·subst hij;exact hL
     ·exact hjj i h3 (by omega)
    |false=>
     rw[<-Lr (x:=.mk k n t ks vs) (i:=j) hk hp (by simp only[yC,yD];omega) hjj (λ_ _=>hL)]
     focus
      refine S.sq<|Q.rg<|Q.mv U<|Q.mv U<|Q.bi U U U<|Q.mv U<|?_
      refine S.tD 40 (λTL=>?_) (λTL=>?_)
      rotate_left
      omega
      refine Q.on (Z.fa dw U)<|Q.on (Z.di 2 dD U U U)<|Q.on (Z.mv U)<|Q.on (Z.ia aY U U (by omega) (by assumption) (by rfl))<|?_
      refine Q.on (Z.fE ed U)<|Q.on (Z.mv U)<|Q.on (Z.eq (Z.call U U (λ_=>si _ _ hsz _)) (by rw[hL]))<|?_
      refine Q.pk U U<|Q.nt<|S.cF U U<|UW.exit<|UQ.pass<|UQ.pass<|UQ.here<|UQ.then<|Q.rg<|S.qu (Z.dA 2 av U U U)<|Q.mv U<|Q.mv U<|S.qu (Z.bl dV U U (bA U))<|S.qu (Z.dA 1 av U U (Y _))<|S.qu (Z.bl iP U U (by intro cs h;cases List.mem_singleton.1 h;exact⟨by exact aA _,by exact Y _⟩))<|?_
      refine S.qu (Z.call U U (λ_=>zg (.mk k n t ks vs) hx j 0 [key] [y] (by simp only[yC,yD];omega) (by simp) (by simp) _))<|?_
      refine S.s<|D.st 0 av U U U U U U U U λ_=>Q.nt<|UW.ret<|S.bK (λhd=>aU (k:=0) hd U U U fV fZ)<|?_
      rfl
   ·rw[<-Lr (x:=.mk k n t ks vs) (i:=j) hk hp (by simp only[yC,yD];omega) hjj (λ_ h=>absurd h hlt)]
    refine S.sq<|Q.rg<|Q.mv U<|Q.mv U<|Q.bi U U U<|Q.mv U<|?_
    refine S.tD 40 (λTL=>?_) (λTL=>?_)
    omega
    refine Q.of<|Q.of<|Q.of<|Q.of<|Q.of<|Q.of<|Q.of<|Q.pk U U<|Q.nt<|S.cF U U<|UW.exit<|UQ.pass<|UQ.pass<|UQ.here<|UQ.then<|Q.rg<|S.qu (Z.dA 2 av U U U)<|Q.mv U<|Q.mv U<|S.qu (Z.bl dV U U (bA U))<|S.qu (Z.dA 1 av U U (Y _))<|S.qu (Z.bl iP U U (by intro cs h;cases List.mem_singleton.1 h;exact⟨by exact aA _,by exact Y _⟩))<|?_
    refine S.qu (Z.call U U (λ_=>zg (.mk k n t ks vs) hx j 0 [key] [y] (by simp only[yC,yD];omega) (by simp) (by simp) _))<|?_
    refine S.s<|D.st 0 av U U U U U U U U λ_=>Q.nt<|UW.ret<|S.bK (λhd=>aU (k:=0) hd U U U fV fZ)<|?_
    rfl
 ·have e1:eP x=.mk 5 0 ⟨#[]⟩ [] []:=by unfold eP;rw[if_neg hk]
  have e2:bH x key y=.mk 5 0 ⟨#[]⟩ [key] [y]:=by unfold bH;rw[e1];rfl
  rw[e2]
  obtain⟨k,n,t,ks,vs⟩:=x
  simp only[V.k] at hk
  refine aF (n:=58) (H0:=H) (I:=[]) Tryz.func18 (by kernel_rfl) U (by rw[Tryz.ntmps18];rfl) .nil<|?_
  refine Q.rg<|S.dd<|D.box U U U λp3=>S.dd<|D.box U U (by exact aA _) λp5=>?_
  refine S.dd<|D.al z26 U U U λp6=>Q.nt<|S.sq<|Q.rg<|Q.fa bP U<|Q.lc 2 eQ U U U<|Q.bi U U U<|Q.nt<|S.cT U (uh (by omega))<|Q.rg<|Q.mv U<|S.qu (Z.bl dV U U (bA U))<|S.qu (Z.dA 1 av U U (Y _))<|S.qu (Z.bl iP U U (by intro cs h;cases List.mem_singleton.1 h;exact⟨by exact aA _,by exact Y _⟩))<|?_
  refine S.qu (Z.bd [0,3,4] iE U U U U U U)<|S.s<|D.st 0 av U U U U U U U U λ_=>Q.nt<|UW.ret<|UQ.ax<|S.bK (λhd=>aU (k:=0) hd U U U fV fZ)<|?_
  rfl
theorem iM(s:ByteArray)(H:Hp):au Tryz.prog 48 [.v (.string s)] H (bz H (.agg (aD (cK s)))):=by
 refine aF (n:=5) (H0:=H) (I:=[]) Tryz.func48 (by kernel_rfl) U (by rw[Tryz.ntmps48];rfl) .nil<|?_
 refine Q.rg<|S.dd<|D.al z26 U U U λp2=>Q.nt<|Q.rg<|Q.mv U<|S.qu (Z.bd [0,2] iE U U U U U U)<|S.s<|D.st 0 av U U U U U U U U λ_=>Q.nt<|UW.ret<|S.bK (λhd=>aU (k:=0) hd U U U fV fZ)<|?_
 rfl
theorem kT(n:Int)(H:Hp):au Tryz.prog 19 [.v (.int .i64 n)] H (bz H (.agg (aD (mU n)))):=by
 refine aF (n:=5) (H0:=H) (I:=[]) Tryz.func19 (by kernel_rfl) U (by rw[Tryz.ntmps19];rfl) .nil<|?_
 refine Q.rg<|S.dd<|D.al z26 U U U λp2=>Q.nt<|Q.rg<|Q.mv U<|S.qu (Z.bd [0,1] iE U U U U U U)<|S.s<|D.st 0 av U U U U U U U U λ_=>Q.nt<|UW.ret<|S.bK (λhd=>aU (k:=0) hd U U U fV fZ)<|?_
 rfl
def uW(i:Int):List AV:=[.v (.int .u8 i)]
def BD(l:List Int):AV:=.sl (l.map uW)
theorem Jp(l:List Int):∀cs∈l.map uW,cs.length=1:=by intro cs h;obtain⟨x,_,rfl⟩:=List.mem_map.1 h;rfl
theorem P7(l:List Int)(k:Nat)(h:k<l.length):(l.map uW)[k]? =some (uW l[k]):=by rw[List.getElem?_map,List.getElem?_eq_getElem h];rfl
def zh(l:List Int):Prop:=∀b∈l,0<=b/\b<256
def BF:List ByteArray:=[⟨#[97]⟩,⟨#[98]⟩,⟨#[34]⟩,⟨#[92]⟩,⟨#[10]⟩,⟨#[1]⟩,⟨#[195,169]⟩,⟨#[226,130,172]⟩,⟨#[240,159,152,128]⟩,⟨#[255]⟩,⟨#[237,160,128]⟩,⟨#[12]⟩,⟨#[127]⟩,⟨#[239,191,189]⟩,⟨#[8]⟩,⟨#[9]⟩]
def BG(c:List Int):Nat->ByteArray
 |0=>⟨#[]⟩
 |k+1=>BG c k++BF.getD ((c.getD k 0).tmod 16).toNat ⟨#[]⟩
theorem Ls:∀i:Nat,(BF.getD i ⟨#[]⟩).size<=4
 |0|1|2|3|4|5|6|7|8|9|10|11|12|13|14|15=>by decide
 |i+16=>by simp[BF,List.getD];decide
theorem sS(c:List Int):∀k,(BG c k).size<=4*k
 |0=>Nat.zero_le _
 |k+1=>by
  have h1:=sS c k
  have h2:=Ls ((c.getD k 0).tmod 16).toNat
  show(BG c k++BF.getD ((c.getD k 0).tmod 16).toNat ⟨#[]⟩).size<=_
  rw[ByteArray.size_append];omega
def textOf(c:List Int):ByteArray:=BG c (min c.length 40)
theorem textOf_size(c:List Int):(textOf c).size<=160:=by have:=sS c (min c.length 40);unfold textOf;omega
theorem GD(c:List Int)(hc:zh c)(H:Hp):au Tryz.prog 157 [BD c] H (bz H (.v (.string (textOf c)))):=by
 have wI:(c.map uW).length=c.length:=List.length_map ..
 refine aF (n:=31) (H0:=H) (I:=[]) Tryz.func157 (by kernel_rfl) U (by rw[Tryz.ntmps157];rfl) .nil<|?_
 refine Q.rg<|Q.as U<|Q.nt<|Q.rg<|S.qu (Z.bl dV U U (bA U))<|Q.as U<|Q.nt<|Q.rg<|Q.as U<|Q.nt<|S.sq<|Q.rg<|Q.as U<|Q.nt<|UW.block<|S.loop (λj:Nat=>[(5,.v (.int .i64 (j:Int))),(4,.v (.string (BG c j))),(3,strs BF),(0,BD c)]) (λ_=>[]) (λj=>j<=c.length/\j<=40) (λj=>40-j) 0 ⟨Nat.zero_le _,Nat.zero_le _⟩ ⟨rfl,rfl,rfl,rfl,trivial⟩ (.refl _)<|?_
 rintro j ⟨hj,hj40⟩
 by_cases hlt:j<c.length
 ·by_cases hl4:j<40
  ·have hgl:=P7 c j hlt
   have hb:=hc _ (List.getElem_mem hlt)
   have hm0:0<=(c[j]).tmod 16:=Int.tmod_nonneg _ hb.1
   have hm1:(c[j]).tmod 16<16:=Int.tmod_lt_of_pos _ (by decide)
   have hg2:=eD BF ((c[j]).tmod 16).toNat (by show _<16;omega)
   have hs1:=sS c j
   have hs2:=Ls ((c[j]).tmod 16).toNat
   have e1:BF.getD ((c[j]).tmod 16).toNat ⟨#[]⟩=BF[((c[j]).tmod 16).toNat]'(by show _<16;omega):=getD_at _
   have e2:c.getD j 0=c[j]:=getD_at hlt
   rw[e1] at hs2
   focus
    refine S.sq<|Q.rg<|Q.mv U<|Q.mv U<|S.qu (Z.fG bR U)<|Q.bi U U U<|Q.mv U<|?_
    refine S.tD 11 (λuu=>?_) (λuu=>?_)
    rotate_left
    omega
    refine Q.on (Z.mv U)<|Q.on (Z.bi U U U)<|Q.pk U U<|Q.nt<|S.cT U (decide_eq_true (by omega))<|UW.skip<|UQ.then<|S.sq<|UW.block<|S.rg<|Q.mv U<|Q.mv U<|Q.mv U<|Q.mv U<|S.qu (Z.ia bR U U (by omega) (by assumption) (by rfl))<|?_
    refine S.qu (Z.fE nM U)<|S.qu (Z.cv Tryz.underlying3 U (IntWalk.i64_in _ (by omega)) (by rw[Tryz.underlying5];rfl))<|?_
    refine Q.mv U<|S.qu (Z.fG aY U)<|S.qu (Z.eq (u':=.v (.int .i64 ((c[j]).tmod 16))) (Z.bi U U U) U)<|S.qu (Z.ia aY U U (by omega) (by assumption) (by rfl))<|?_
    refine S.qu (Z.fE ed U)<|S.qu (Z.eq (u':=.v (.string (BG c (j+1)))) (Z.cat U U (by omega)) (by rw[<-e1,<-e2];rfl))<|?_
    refine Q.as U<|US.nil<|UQ.aB<|UQ.then<|S.rg<|Q.mv U<|S.qu (Z.add (r:=((j+1:Nat):Int)) U U (IntWalk.i64_in _ (by omega)))<|Q.as U<|US.nil<|?_
    refine S.back _ ⟨rfl,rfl,rfl,rfl,trivial⟩ (.refl _) (by omega) (by omega)
  ·focus
    refine S.sq<|Q.rg<|Q.mv U<|Q.mv U<|S.qu (Z.fG bR U)<|Q.bi U U U<|Q.mv U<|?_
    refine S.tD 11 (λuu=>?_) (λuu=>?_)
    rotate_left
    omega
    refine Q.on (Z.mv U)<|Q.on (Z.bi U U U)<|Q.pk U U<|Q.nt<|S.cF U (decide_eq_false (by omega))<|UW.exit<|UQ.pass<|UQ.pass<|UQ.here<|UQ.then<|Q.rg<|Q.mv U<|Q.as U<|Q.nt<|UW.ret<|S.bK (λ_=>ak U U)<|?_
    focus (rw[show textOf c=BG c j from by unfold textOf;congr 1;omega];done)
 ·refine S.sq<|Q.rg<|Q.mv U<|Q.mv U<|S.qu (Z.fG bR U)<|Q.bi U U U<|Q.mv U<|?_
  refine S.tD 11 (λuu=>?_) (λuu=>?_)
  omega
  refine Q.of<|Q.of<|Q.pk U U<|Q.nt<|S.cF U U<|UW.exit<|UQ.pass<|UQ.pass<|UQ.here<|UQ.then<|Q.rg<|Q.mv U<|Q.as U<|Q.nt<|UW.ret<|S.bK (λ_=>ak U U)<|?_
  focus (rw[show textOf c=BG c j from by unfold textOf;congr 1;omega];done)
end Go.Proofs.YtonpfomjoiaacaaGreatDoor
end
section
namespace Go.fT
open Go Go.ChangeAt Go.ChangeShapes Go.RowKit Go.WideShapes
section
variable {H:Type} {enc:TypeId×Value->H} {P:Program}
theorem N9{f:Func}{s:ChangeSpec}{apart fresh handsOn again:Bool}{W W':World}{args:Array Value}{v:Value}{ds gs:List (DataW H)}{before pa pv:List MemPlace}
 (hW:DataW.Whole enc P f.params.toList s.vars apart W args.toList ds gs before)
 (hres:∀(b:Nat) (sp:Nat->Bool) (hd:Bool),DataW.TrodAll enc P W' b sp hd f.resultTypes.toList (v.resultList f.resultTypes.size) (s.fn H (ds++gs)).results [])
 (hargs:∀sp:Nat->Bool,(∀p∈before,sp p.block=true)->DataW.TrodAll enc P W' 0 sp true f.params.toList args.toList (s.fn H (ds++gs)).args pa)
 (hvars:∀sp:Nat->Bool,(∀p∈before,sp p.block=true)->DataW.TrodVars enc P W' sp s.vars (s.fn H (ds++gs)).vars pv)
 (hps:before=pa++pv) (hb:Below W.heap.size W W')
 (hok:∀(j:Nat) (t:TypeId) (r:Value),f.resultTypes[j]? =some t->(v.resultList f.resultTypes.size)[j]? =some r->Value.okWide P W' .any 0 t r):
 s.post enc P f apart fresh handsOn again W args v W':=by
 have hold:∀p∈before,(λb=>decide (b<W.heap.size)) p.block=true:=λp hp=>by simpa using hW.lt p hp
 refine⟨ds,gs,before,[],pa,pv,hW,hres _ _ _,hargs _ hold,hvars _ hold,hb.frame _,λ_=>?_⟩
 have hlt:=hW.lt
 obtain⟨_,_,_,_,_,hz,hn⟩:=hW
 refine⟨hok,_,_,([]++pa)++pv,⟨[]++pa,pv,trodAll_append (hargs _ (λ_ _=>rfl)) (hres _ _ _),hvars _ (λ_ _=>rfl),rfl,?_,?_⟩,?_⟩
 ·intro b off hp
  have hp':MemPlace.cell b off∈before:=by rw[hps];simpa using hp
  rw[hb.frozen (hlt _ hp')]
  exact hz b off hp'
 ·intro ha
  have:=hn ha
  rw[hps] at this
  simpa using this
 ·intro p hp _
  rw[hps]
  simpa using hp
end
def lV:gz:=λ_=>none
def F7:Hp:=λ_=>none
theorem TM(k:Nat):¬Own lV F7 k:=by rintro⟨_,_,_,h,_⟩;cases h
theorem aaL(k:Nat):bF lV F7 k:=TM k
end Go.fT
end
section
namespace Go.Proofs.YtonpfomjoiaacaaGreatDoor
open Go Go.ChangeAt Go.ChangeShapes Go.fT Go.RowKit Go.WideShapes
theorem VZ{W:World}{a:Addr}{len cap:Nat}{zs:List Int}(hl:len<=zs.length)(hc:len<=cap)(hm:cap<=maxLen)(h:∀i,i<zs.length->W.cell? (a.add i)=some (.int .u8 (zs.getD i 0))):
 dU (bF lV F7) lV W (BD (zs.take len)) (.slice (some a) len cap):=by
 have e:((zs.take len).map uW).length=len:=by rw[List.length_map,List.length_take];omega
 have hr:=dU.sl (ok:=bF lV F7) (ρ:=lV) (w:=W) ((zs.take len).map uW) a cap 1 (λi _=> .int .u8 (zs.getD i 0)) (by rw[e];exact hc) hm (λhn=>⟨aaL _,by
  have h0:0<zs.length:=by
   cases hs:zs with
   |nil=>rw[hs] at hn;simp at hn
   |cons x r=>simp
  have:=h 0 h0
  simp only[World.cell?,add_block] at this
  rcases Nat.lt_or_ge a.block W.heap.size with h'|h'
  ·exact h'
  ·simp[Array.getElem?_eq_none h'] at this⟩) (Jp _) (λi cs j hi hj=>by
  have hi2:i<len:=by rw[<-e];exact(List.getElem?_eq_some_iff.1 hi).1
  have hcs:cs.length=1:=Jp _ cs (List.mem_of_getElem? hi)
  have hj0:j=0:=by omega
  subst hj0
  simp only[Nat.mul_one,Nat.add_zero]
  exact⟨h i (by omega),rfl⟩) (λi cs j u hi hj=>by
  have hi2:i<len:=by rw[<-e];exact(List.getElem?_eq_some_iff.1 hi).1
  have hil:i<zs.length:=by omega
  rw[List.getElem?_map,List.getElem?_take,if_pos hi2,List.getElem?_eq_getElem hil] at hi
  cases hi
  match j with
  |0=>
   cases hj
   have:zs.getD i 0=zs[i]:=by simp[List.getD,hil]
   rw[this]
   exact .v _
  |j+1=>simp[uW] at hj)
 rw[e] at hr
 exact hr
theorem Lt{H:Type}{enc:TypeId×Value->H}{P:Program}{W:World}{base:Nat}{spare:Nat->Bool}{held:Bool}{t e:TypeId}{v:Value}{d:DataW H}{ps:List MemPlace}{fuel:Nat}(ht:P.underlying t=some (.slice e))(he:P.underlying e=some (.int .u8))(hc:P.cellsOf e=1)
 (hv:∃a len cap,v=.slice a len cap) (h:DataW.trod enc P W base spare held fuel t v.cells.toList=some (d,ps)):∃c,dU (bF lV F7) lV W (BD c) v/\zh c:=by
 obtain⟨a0,V3,cap0,rfl⟩:=hv
 rcases open_ints ht he hc h with ⟨hcs,hx⟩|⟨a,len,cap,zs,hcs,_,hl,hm,hz,hx,hcell,hwf⟩
 ·obtain⟨rfl,rfl,rfl⟩:a0=none/\V3=0/\cap0=0:=by simpa[Value.cells] using hcs
  exact⟨[],.nil,by intro b hb;cases hb⟩
 ·obtain⟨rfl,rfl,rfl⟩:a0=some a/\V3=len/\cap0=cap:=by simpa[Value.cells] using hcs
  have hl2:V3<=zs.length:=by rw[hz];split<;>omega
  refine⟨zs.take V3,VZ hl2 hl hm hcell,λb hb=>?_⟩
  have:=hwf b (List.mem_of_mem_take hb)
  simp only[Lit.wf,Bool.and_eq_true,decide_eq_true_eq] at this
  exact⟨this.1,Int.lt_of_le_of_lt this.2 (by decide)⟩
end Go.Proofs.YtonpfomjoiaacaaGreatDoor
end
