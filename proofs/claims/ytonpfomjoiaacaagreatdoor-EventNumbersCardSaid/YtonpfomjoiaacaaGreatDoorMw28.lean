/- A part of the proof. -/
import Derived.Test.YtonpfomjoiaacaaGreatDoorMw26
import Derived.Test.YtonpfomjoiaacaaGreatDoorMw17
import Derived.Test.YtonpfomjoiaacaaGreatDoorMw11
import Derived.Test.YtonpfomjoiaacaaGreatDoorMw27
import Derived.Test.YtonpfomjoiaacaaGreatDoorMw12
set_option maxRecDepth 100000
set_option maxHeartbeats 4000000
set_option linter.unusedSectionVars false
set_option linter.unusedVariables false
set_option linter.unusedSimpArgs false
section
namespace Go.Proofs.YtonpfomjoiaacaaGreatDoor
open Go Go.iG Go.RowKit
def rY:ByteArray:=⟨#[109,46,114,111,111,109,46,99,114,101,97,116,101]⟩
def Bj:ByteArray:=⟨#[109,46,114,111,111,109,46,109,101,109,98,101,114]⟩
def GL:ByteArray:=⟨#[109,46,114,111,111,109,46,112,111,119,101,114,95,108,101,118,101,108,115]⟩
def GM:ByteArray:=⟨#[109,46,114,111,111,109,46,106,111,105,110,95,114,117,108,101,115]⟩
def V9:ByteArray:=⟨#[109,46,114,111,111,109,46,115,101,114,118,101,114,95,97,99,108]⟩
def xn:ByteArray:=⟨#[109,101,109,98,101,114,115,104,105,112]⟩
def CG:ByteArray:=⟨#[106,111,105,110,95,114,117,108,101]⟩
def GN:ByteArray:=⟨#[97,108,108,111,119]⟩
def Wd:ByteArray:=⟨#[100,101,110,121]⟩
def We:ByteArray:=⟨#[98,97,110,32,101,118,101,110,116,115,32,101,118,101,110,116,115,95,100,101,102,97,117,108,116,32,105,110,118,105,116,101,32,107,105,99,107,32,115,116,97,116,101,95,100,101,102,97,117,108,116,32,117,115,101,114,115,32,117,115,101,114,115,95,100,101,102,97,117,108,116]⟩
def uj:ByteArray:=⟨#[97,117,116,104,95,101,118,101,110,116,115,32,99,111,110,116,101,110,116,32,100,101,112,116,104,32,104,97,115,104,101,115,32,111,114,105,103,105,110,95,115,101,114,118,101,114,95,116,115,32,112,114,101,118,95,101,118,101,110,116,115,32,114,111,111,109,95,105,100,32,115,101,110,100,101,114,32,115,116,97,116,101,95,107,101,121,32,116,121,112,101]⟩
def CJ:List ByteArray:=[⟨#[98,97,110]⟩,⟨#[101,118,101,110,116,115]⟩,⟨#[101,118,101,110,116,115,95,100,101,102,97,117,108,116]⟩,⟨#[105,110,118,105,116,101]⟩,⟨#[107,105,99,107]⟩,⟨#[115,116,97,116,101,95,100,101,102,97,117,108,116]⟩,⟨#[117,115,101,114,115]⟩,⟨#[117,115,101,114,115,95,100,101,102,97,117,108,116]⟩]
def dH:List ByteArray:=[⟨#[97,117,116,104,95,101,118,101,110,116,115]⟩,⟨#[99,111,110,116,101,110,116]⟩,⟨#[100,101,112,116,104]⟩,⟨#[104,97,115,104,101,115]⟩,⟨#[111,114,105,103,105,110,95,115,101,114,118,101,114,95,116,115]⟩,⟨#[112,114,101,118,95,101,118,101,110,116,115]⟩,⟨#[114,111,111,109,95,105,100]⟩,⟨#[115,101,110,100,101,114]⟩,⟨#[115,116,97,116,101,95,107,101,121]⟩,⟨#[116,121,112,101]⟩]
theorem Jc:D6 Tryz.prog 176=some 23:=by kernel_rfl
theorem DC(s:ByteArray)(l:List ByteArray)(hs:s.size<1000)(ha:(s.data.toList.all λb=>b.toNat<128)=true)(hl:(Lib.fields s.data.toList).map (λl=>(⟨l.toArray⟩:ByteArray))=l)(h2:l.length<=1000)(H:Hp)(hG:fA H):au Tryz.prog 130 [.v (.string s)] H (bB H (strs l)):=by
 refine⟨⟨_,Tryz.func130,by kernel_rfl,by kernel_rfl⟩,λρ w vals hh hr=>?_⟩
 obtain⟨hvl,hr⟩:=hr
 match vals,hvl,hr with
 |[v],_,hr=>
  have e1:=aV (hr 0 _ _ U U)
  subst e1
  refine(Tryz.strings_Fields s w (by omega) (λj b hb=>by simpa using List.all_eq_true.1 ha b (List.mem_of_getElem? hb)) (hG.2.tab hh)).mono<|?_
  rintro e w' ⟨rfl,rfl⟩
  have hll:(Lib.fields s.data.toList).length=l.length:=by rw[<-hl,List.length_map]
  have hcells:(Lib.fields s.data.toList).map (λl=>Value.string ⟨l.toArray⟩)=l.map Value.string:=by rw[<-hl,List.map_map];rfl
  rw[hll,hcells]
  obtain⟨q1,q2⟩:=hh.below (iP w (.cells (l.map Value.string).toArray 9))
  have hnew:bF ρ H w.heap.size:=by
   rintro⟨id,ob,v,_,b,c⟩
   have:=hh.lt id v _ b c
   omega
  refine⟨_,ρ,strs l,H,rfl,q1,q2,?_,rfl,rfl⟩
  have:=eF.sl (ok:=bF ρ H) (ρ:=ρ) (w:=w.alloc (.cells (l.map Value.string).toArray 9)) (l.map encS) ⟨w.heap.size,0,none⟩ l.length 1 (λi j=> .string (l.getD i ⟨#[]⟩)) (by rw[List.length_map];exact Nat.le_refl _) (by simp only[maxLen];omega) (λ_=>⟨hnew,by rw[size_alloc];simp⟩) (j5 l) (λi cs j hi hj=>?_) (λi cs j u hi hj=>?_)
  ·rw[List.length_map] at this;exact this
  ·have hc1:=j5 l cs (List.mem_of_getElem? hi)
   have hj0:j=0:=by omega
   subst hj0
   have hil:i<l.length:=by have:=(List.getElem?_eq_some_iff.1 hi).1;rwa [List.length_map] at this
   rw[add_plain]
   refine⟨?_,rfl⟩
   simp only[World.cell?,heap_alloc_new]
   simp[hil]
  ·have hil:i<l.length:=by have:=(List.getElem?_eq_some_iff.1 hi).1;rwa [List.length_map] at this
   rw[List.getElem?_map,List.getElem?_eq_getElem hil] at hi
   cases hi
   have hj0:j=0:=by have:=(List.getElem?_eq_some_iff.1 hj).1;simpa[encS] using this
   subst hj0
   simp[encS] at hj
   subst hj
   simp[hil]
   exact .v _
theorem LF:(Lib.fields We.data.toList).map (λl=>(⟨l.toArray⟩:ByteArray))=CJ:=by kernel_rfl
theorem LG:(Lib.fields uj.data.toList).map (λl=>(⟨l.toArray⟩:ByteArray))=dH:=by kernel_rfl
def hasB(l:List ByteArray)(s:ByteArray):Bool:=l.any λx=>s.toList==x.toList
theorem kJ{l:List ByteArray}{s:ByteArray}:hasB l s=true↔s∈l:=by
 unfold hasB
 rw[List.any_eq_true]
 constructor
 ·rintro⟨x,h1,h2⟩
  rw[gI (by simpa using h2:s.toList=x.toList)];exact h1
 ·intro h;exact⟨s,h,by simp⟩
theorem Z7(l:List ByteArray)(s:ByteArray):decide (oi (dF l s)>=0)=hasB l s:=by
 cases h:dF l s with
 |none=>
  have:=qL h
  rw[<-kJ] at this
  have h2:hasB l s=false:=by simpa using this
  rw[h2]
  rfl
 |some i=>
  unfold dF at h
  obtain⟨hi,h1,_⟩:=List.findIdx?_eq_some_iff_getElem.1 h
  have:hasB l s=true:=List.any_eq_true.2 ⟨l[i],List.getElem_mem hi,h1⟩
  rw[this]
  rfl
theorem nZ(l:List ByteArray)(s:ByteArray)(hl:l.length<=1000000)(H:Hp):au Tryz.prog 97 [strs l,.v (.string s)] H (bB H (.v (.bool (hasB l s)))):=by
 have hi:=Z7 l s
 unfold strs
 refine aF (n:=9) (H0:=H) (I:=[]) Tryz.func97 (by kernel_rfl) U (by rw[Tryz.ntmps97];rfl) .nil<|?_
 refine Q.rg<|Q.as U<|Q.nt<|Q.rg<|Q.mv U<|Q.mv U<|S.qu (Z.call U U (λ_=>index_spec l s hl _))<|Q.bi U U U<|Q.as U<|Q.nt<|UW.ret<|S.bH (λ_=>ak U U)<|?_
 focus (rw[<-hi];done)
theorem TZ(l:List ByteArray)(s:ByteArray)(hl:l.length<=1000000)(H:Hp):au Tryz.prog 200 [strs l,.v (.string s)] H (bB H (.v (.bool (hasB l s)))):=by
 have yE:(l.map encS).length=l.length:=List.length_map ..
 unfold strs
 refine aF (n:=18) (H0:=H) (I:=[]) Tryz.func200 (by kernel_rfl) U (by rw[Tryz.ntmps200];rfl) .nil<|?_
 refine Q.rg<|Q.as U<|Q.nt<|S.sq<|Q.rg<|Q.as U<|Q.nt<|UW.block<|S.loop (λj:Nat=>[(5,.v (.int .i64 (j:Int))),(0,.sl (l.map encS)),(1,.v (.string s))]) (λ_=>[]) (λj=>j<=l.length/\hasB l s=hasB (l.drop j) s) (λj=>l.length-j) 0 ⟨Nat.zero_le _,rfl⟩ ⟨rfl,rfl,rfl,trivial⟩ (.refl _)<|?_
 rintro j ⟨hj,hJ⟩
 by_cases hlt:j<l.length
 ·have hg:=eY l j hlt
  have hd:hasB (l.drop j) s=((s.toList==l[j].toList)||hasB (l.drop (j+1)) s):=by
   rw[List.drop_eq_getElem_cons hlt];rfl
  focus
   refine S.sq<|Q.rg<|Q.mv U<|Q.mv U<|S.qu (Z.fM aZ U)<|Q.bi U U U<|Q.nt<|S.cT U (decide_eq_true (by omega))<|UW.skip<|UQ.then<|S.sq<|UW.block<|Q.rg<|Q.mv U<|Q.mv U<|S.qu (Z.ia aZ U U (by omega) (by assumption) (by rfl))<|?_
   refine S.qu (Z.fO dW U)<|Q.mv U<|S.qu (Z.bs U U U)<|Q.nt<|?_
   refine S.cE U (λhc17=>?_) (λhc17=>?_)
   refine Q.rg<|Q.as U<|Q.nt<|UW.ret<|UQ.aI<|UQ.ax<|UQ.ax<|UQ.aI<|UQ.ax<|S.bH (λ_=>ak U U)<|?_
   rotate_left
   refine UW.skip<|UQ.aB<|UQ.then<|S.rg<|Q.mv U<|S.qu (Z.add (r:=((j+1:Nat):Int)) U U (IntWalk.i64_in _ (by omega)))<|Q.as U<|US.nil<|?_
   refine S.back _ ⟨rfl,rfl,rfl,trivial⟩ (.refl _) ?_ (by omega)
   rotate_left
  ·rw[hJ,hd,show(s.toList==l[j].toList)=true from by simpa using hc17.symm];rfl
  ·exact⟨by omega,by rw[hJ,hd,show(s.toList==l[j].toList)=false from by simpa using Ne.symm hc17];rfl⟩
 ·refine S.sq<|Q.rg<|Q.mv U<|Q.mv U<|S.qu (Z.fM aZ U)<|Q.bi U U U<|Q.nt<|S.cF U (decide_eq_false (by omega))<|UW.exit<|UQ.pass<|UQ.pass<|UQ.here<|UQ.then<|Q.rg<|Q.as U<|Q.nt<|UW.ret<|S.bH (λ_=>ak U U)<|?_
  rw[hJ,List.drop_eq_nil_of_le (by omega)];rfl
def R6:List (ByteArray×AV):=[(Bj,strs [xn]),(GL,strs CJ),(GM,strs [CG]),(V9,strs [GN,Wd])]
def qM(kind:ByteArray):List ByteArray:=if kind=Bj then[xn] else if kind=GL then CJ else if kind=GM then[CG] else if kind=V9 then[GN,Wd] else[]
def gK(kind key:ByteArray):Bool:=kind.toList==rY.toList||hasB (qM kind) key
theorem T9(kind:ByteArray):(qM kind).length<=8:=by
 unfold qM
 (repeat' split)<;>decide
theorem Qy(kind:ByteArray):l6 R6 kind=some (strs (qM kind))\/(l6 R6 kind=none/\qM kind=[]):=by
 unfold qM R6
 simp only[l6]
 (repeat' split)<;>first|exact .inl U|exact .inr ⟨rfl,rfl⟩
theorem GQ(H:Hp)(hG:fA H):au Tryz.prog 181 [] H (λu H'=>∃news,aP H news/\H'=aD H news/\∃id,u=.mpr id/\news=[(id,.mp R6)]):=by
 refine aF (n:=7) (H0:=H) (I:=[]) Tryz.func181 (by kernel_rfl) U (by rw[Tryz.ntmps181];rfl) .nil<|?_
 refine Q.rg<|Q.as U<|Q.nt<|Q.rg<|S.dd<|D.mkm λp1=>S.qu (Z.bl dQ U U (bz U))<|S.s<|D.ins 0 Jc U U U U U U λ_=>S.qu (Z.bK U U (λ_ hS=>DC We CJ (by decide) (by decide) LF (by decide) _ (hG.mono hS)))<|S.s<|D.ins 0 Jc U U U U U U λ_=>S.qu (Z.bl dQ U U (bz U))<|S.s<|D.ins 0 Jc U U U U U U λ_=>S.qu (Z.bl dQ U U (bz U))<|S.s<|D.ins 0 Jc U U U U U U λ_=>Q.mv U<|Q.as U<|Q.nt<|UW.ret<|?_
 exact bR [_] (λ_=>ak U U) (.refl _) λhd=>⟨_,hd,rfl,_,rfl,rfl⟩
theorem Ua(kind key:ByteArray)(H:Hp)(hG:fA H):au Tryz.prog 134 [.v (.string kind),.v (.string key)] H (bB H (.v (.bool (gK kind key)))):=by
 have hl:=T9 kind
 rcases Qy kind with hk|⟨hk,hk2⟩
 ·refine aF (n:=14) (H0:=H) (I:=[]) Tryz.func134 (by kernel_rfl) U (by rw[Tryz.ntmps134];rfl) .nil<|?_
  refine Q.rg<|Q.as U<|Q.nt<|Q.rg<|Q.mv U<|S.qu (Z.bs U U U)<|Q.mv U<|?_
  refine S.tE 7 (λVu=>?_) (λVu=>?_)
  refine Q.of<|Q.of<|Q.of<|Q.of<|Q.of<|Q.pk U U<|Q.as U<|Q.nt<|UW.ret<|S.bH (λ_=>ak U U)<|?_
  focus (rw[gK,show(kind.toList==rY.toList)=true from jP Vu,Bool.true_or];done)
  refine S.dd<|D.on<|D.cne U U (λhd=>GQ _ (hG.ext hd))<|?_
  rintro _ _ ⟨p8,rfl,rfl⟩
  refine Q.on (Z.mv U)<|Q.on (Z.lkm (u:=strs (qM kind)) 0 Jc z23 U U U (congrArg (λo=>Option.getD o (.v (.slice none 0 0))) hk))<|Q.on (Z.mv U)<|Q.on (Z.call U U (λH=>nZ (qM kind) key (by omega) H))<|Q.pk U U<|Q.as U<|Q.nt<|UW.ret<|S.bH (λ_=>ak U U)<|?_
  focus (rw[gK,show(kind.toList==rY.toList)=false from gG Vu,Bool.false_or];done)
 ·refine aF (n:=14) (H0:=H) (I:=[]) Tryz.func134 (by kernel_rfl) U (by rw[Tryz.ntmps134];rfl) .nil<|?_
  refine Q.rg<|Q.as U<|Q.nt<|Q.rg<|Q.mv U<|S.qu (Z.bs U U U)<|Q.mv U<|?_
  refine S.tE 7 (λVu=>?_) (λVu=>?_)
  refine Q.of<|Q.of<|Q.of<|Q.of<|Q.of<|Q.pk U U<|Q.as U<|Q.nt<|UW.ret<|S.bH (λ_=>ak U U)<|?_
  focus (rw[gK,show(kind.toList==rY.toList)=true from jP Vu,Bool.true_or];done)
  refine S.dd<|D.on<|D.cne U U (λhd=>GQ _ (hG.ext hd))<|?_
  rintro _ _ ⟨p8,rfl,rfl⟩
  refine Q.on (Z.mv U)<|Q.on (Z.lkm (u:=.v (.slice none 0 0)) 0 Jc z23 U U U (congrArg (λo=>Option.getD o (.v (.slice none 0 0))) hk))<|US.slot 10 U (bO.nil _)<|Q.on (Z.mv U)<|Q.on (Z.call U U (λH=>nZ [] key (by decide) H))<|Q.pk U U<|Q.as U<|Q.nt<|UW.ret<|S.bH (λ_=>ak U U)<|?_
  focus ((rw[gK,show(kind.toList==rY.toList)=false from gG Vu,Bool.false_or,hk2]);done)
theorem NR(a s:ByteArray):hasB [a] s=(s.toList==a.toList):=by show(_||false)=_;rw[Bool.or_false]
theorem NS(a b s:ByteArray):hasB [a,b] s=(s.toList==a.toList||s.toList==b.toList):=by show(_||(_||false))=_;rw[Bool.or_false]
theorem LH{kind:ByteArray}(h:kind.toList=rY.toList)(key:ByteArray):gK kind key=true:=by rw[gK,jP h,Bool.true_or]
theorem l7{kind:ByteArray}(h:¬kind.toList=rY.toList)(key:ByteArray):gK kind key=hasB (qM kind) key:=by rw[gK,gG h,Bool.false_or]
theorem Z8{kind:ByteArray}(h:kind.toList=Bj.toList):qM kind=[xn]:=by rw[gI h];kernel_rfl
theorem Z9{kind:ByteArray}(h:kind.toList=GL.toList):qM kind=CJ:=by rw[gI h];kernel_rfl
theorem aaa{kind:ByteArray}(h:kind.toList=GM.toList):qM kind=[CG]:=by rw[gI h];kernel_rfl
theorem R7{kind:ByteArray}(h:kind.toList=V9.toList):qM kind=[GN,Wd]:=by rw[gI h];kernel_rfl
theorem aab{kind:ByteArray}(h1:¬kind.toList=Bj.toList)(h2:¬kind.toList=GL.toList)(h3:¬kind.toList=GM.toList)(h4:¬kind.toList=V9.toList):qM kind=[]:=by
 unfold qM
 rw[if_neg (λh=>h1 (by rw[h])),if_neg (λh=>h2 (by rw[h])),if_neg (λh=>h3 (by rw[h])),if_neg (λh=>h4 (by rw[h]))]
theorem Qz(kind key:ByteArray)(H:Hp):au Tryz.prog 174 [.v (.string kind),.v (.string key)] H (bB H (.v (.bool (gK kind key)))):=by
 refine aF (n:=29) (H0:=H) (I:=[]) Tryz.func174 (by kernel_rfl) U (by rw[Tryz.ntmps174];rfl) .nil<|?_
 focus
  refine Q.rg<|Q.as U<|Q.nt<|S.sq<|Q.rg<|Q.mv U<|Q.nt<|UW.block<|Q.rg<|S.qu (Z.bs U U U)<|Q.as U<|Q.nt<|?_
  refine S.cE U (λhc6=>?_) (λhc6=>?_)
  refine Q.rg<|Q.as U<|Q.nt<|UW.ret<|UQ.aI<|UQ.ax<|S.bH (λ_=>ak U U)<|?_
  rotate_left
  refine Q.rg<|S.qu (Z.bs U U U)<|Q.as U<|Q.nt<|?_
  refine S.cE U (λhc8=>?_) (λhc8=>?_)
  refine Q.rg<|Q.mv U<|S.qu (Z.bs U U U)<|Q.as U<|Q.nt<|UW.ret<|UQ.aI<|UQ.ax<|S.bH (λ_=>ak U U)<|?_
  rotate_left
  refine Q.rg<|S.qu (Z.bs U U U)<|Q.as U<|Q.nt<|?_
  refine S.cE U (λCj=>?_) (λCj=>?_)
  refine Q.rg<|S.qu (Z.bl dQ U U (bz U))<|Q.mv U<|S.qu (Z.call U U (λH=>TZ CJ key (by decide) H))<|Q.as U<|Q.nt<|UW.ret<|UQ.aI<|UQ.ax<|S.bH (λ_=>ak U U)<|?_
  rotate_left
  refine Q.rg<|S.qu (Z.bs U U U)<|Q.as U<|Q.nt<|?_
  refine S.cE U (λhc17=>?_) (λhc17=>?_)
  refine Q.rg<|Q.mv U<|S.qu (Z.bs U U U)<|Q.as U<|Q.nt<|UW.ret<|UQ.aI<|UQ.ax<|S.bH (λ_=>ak U U)<|?_
  rotate_left
  refine Q.rg<|S.qu (Z.bs U U U)<|Q.as U<|Q.nt<|?_
  refine S.cE U (λhc21=>?_) (λhc21=>?_)
  refine Q.rg<|Q.mv U<|S.qu (Z.bs U U U)<|Q.mv U<|?_
  refine S.tE 25 (λhc25=>?_) (λhc25=>?_)
  refine Q.of<|Q.of<|Q.pk U U<|Q.as U<|Q.nt<|UW.ret<|UQ.aI<|UQ.ax<|S.bH (λ_=>ak U U)<|?_
  rotate_left
  refine Q.on (Z.mv U)<|Q.on (Z.bs U U U)<|Q.pk U U<|Q.as U<|Q.nt<|UW.ret<|UQ.aI<|UQ.ax<|S.bH (λ_=>ak U U)<|?_
  rotate_left
  refine UW.skip<|UQ.aB<|UQ.then<|Q.rg<|Q.as U<|Q.nt<|UW.ret<|S.bH (λ_=>ak U U)<|?_
  rotate_left
 ·rw[LH hc6]
 ·rw[l7 hc6,Z8 hc8,NR];rfl
 ·rw[l7 hc6,Z9 Cj]
 ·rw[l7 hc6,aaa hc17,NR];rfl
 ·rw[l7 hc6,R7 hc21,NS,jP (show key.toList=GN.toList from hc25),Bool.true_or]
 ·rw[l7 hc6,R7 hc21,NS,gG (show ¬key.toList=GN.toList from hc25),Bool.false_or];rfl
 ·rw[l7 hc6,aab hc8 Cj hc17 hc21];rfl
theorem D.apl{P:Program}{n:Nat}{ops:Array Oper}{H0:Hp}{K:AV->List (Nat×Ob)->Prop}{l:List (Nat×AV)}{I:List (Nat×Ob)}{dst:Option Nat}{ty t e sz b id:Nat}{ps:String}{af:Array Edge}{u:AV}{rows news rws:List (List AV)}{s x:Operand}{len:Nat}(k m:Nat)(ht:kg P t e sz b)(hs:aW l s=some (.own id 0 len sz))(h2:I[k]? =some (id,.row e sz rows))(hle:len<=rows.length)(hx:aW l x=some u)(hsrc:uo I sz u news)(hb:(len+news.length)*b<=140737488355328)(hr:rows.take len++news=rws)(hm:len+news.length=m)
 (hk:∀id',K (.own id' 0 m sz) ((id',.row e sz rws)::I.eraseIdx k)):DS P n ops H0 ⟨dst,.call {callee:=.builtin .append,args:= #[s,x],argTypes:= #[t,t]},ty,ps,af,none⟩ l I K:=by
 subst hm
 exact D.ap k ht hs h2 hle hx hsrc hb hr hk
def oL(ks:List ByteArray)(vs:List V)(g:ByteArray->Bool)(i:Nat):List (ByteArray×V):=((ks.zip vs).take i).filter λp=>g p.1
def jA(x:V)(g:ByteArray->Bool):V:=.mk 5 0 ⟨#[]⟩ ((oL x.ks x.vs g (min x.ks.length x.vs.length)).map (·.1)) ((oL x.ks x.vs g (min x.ks.length x.vs.length)).map (·.2))
theorem Wh(ks:List ByteArray)(vs:List V)(g:ByteArray->Bool)(i:Nat)(h1:i<ks.length)(h2:i<vs.length):oL ks vs g (i+1)=oL ks vs g i++(if g ks[i]=true then[(ks[i],vs[i])] else[]):=by
 unfold oL
 have hz:i<(ks.zip vs).length:=by rw[List.length_zip];omega
 rw[List.take_add_one,List.getElem?_eq_getElem hz,List.filter_append,List.getElem_zip]
 congr 1
 show List.filter _ [(ks[i],vs[i])]=_
 by_cases hg:g ks[i]=true
 ·simp[hg]
 ·have:g ks[i]=false:=by simpa using hg
  simp[this]
theorem LJ(ks:List ByteArray)(vs:List V)(g:ByteArray->Bool)(i:Nat):(oL ks vs g i).length<=i:=by
 unfold oL
 have h1:=List.length_filter_le (λp:ByteArray×V=>g p.1) ((ks.zip vs).take i)
 rw[List.length_take] at h1
 omega
theorem Wi(x:V)(hx:Fits x)(f:Nat)(df:List AV)(g:ByteArray->Bool)(H:Hp)(aac:∀k∈x.ks,∀H',Sub H H'->au Tryz.prog f ([.v (.string k)]++df) H' (bB H' (.v (.bool (g k))))):au Tryz.prog 131 [.agg (aC x),.iF f df] H (M8 H (jA x g)):=by
 obtain⟨k,n,t,ks,vs⟩:=x
 have hks:(V.mk k n t ks vs).ks=ks:=rfl
 rw[hks] at aac
 have hvl:=aS vs
 have hkl:(ks.map encS).length=ks.length:=List.length_map ..
 have hb:ks.length<=1000000/\vs.length<=1000000/\∀x∈vs,Fits x:=by cases hx with|mk _ _ _ _ _ a b c=>exact⟨a,b,c⟩
 refine aF (n:=48) (H0:=H) (I:=[]) Tryz.func131 (by kernel_rfl) U (by rw[Tryz.ntmps131];rfl) .nil<|?_
 refine Q.rg<|S.dd<|D.box U U U λp2=>S.dd<|D.al z26 U U U λp4=>Q.nt<|Q.rg<|S.qu (Z.bdp [0] gU U U U U U)<|S.dd<|D.al z26 U U U λp5=>S.s<|D.st 0 av U U U U U U U U λ_=>?_
 (refine US.rR (sz:=1) 0 3 9 (by decide) U U (λrk=>?_);simp only[List.set_cons_zero,List.set_cons_succ])
 (refine US.rR (sz:=5) 1 4 26 (by decide) U U (λrv=>?_);simp only[List.set_cons_zero,List.set_cons_succ])
 refine Q.nt<|S.sq<|Q.rg<|Q.fa dJ U<|Q.lc 4 dB U U U<|S.qu (Z.fM aZ U)<|Q.fa bU U<|Q.lc 4 dR U U U<|S.qu (Z.fM bP U)<|?_
 refine S.qu (Z.eq (u':=.v (.int .i64 ((min ks.length vs.length:Nat):Int))) (Z.min U U) (by congr 2;rw[hkl,hvl];split<;>omega)) ?_
 refine Q.mv U<|Q.nt<|UW.block<|S.loop (λj:Nat×Nat×Nat=>[(15,.v (.int .i64 (j.1:Int))),(14,.v (.int .i64 ((min ks.length vs.length:Nat):Int))),(1,.iF f df),(5,.ptr p5 0),(4,.ptr p4 0),(2,.ptr p2 0)]) (λj=>[(j.2.2,.row 26 5 (bu ((oL ks vs g j.1).map (·.2)))),(j.2.1,.row 9 1 (((oL ks vs g j.1).map (·.1)).map encS)),(p5,.box 26 [.v (.int .i64 5),.v (.int .i64 0),.v (.string ⟨#[]⟩),.own j.2.1 0 (oL ks vs g j.1).length 1,.own j.2.2 0 (oL ks vs g j.1).length 5]),(p4,.box 26 (aC zeroV)),(p2,.box 26 (aC (.mk k n t ks vs)))]) (λj=>j.1<=min ks.length vs.length) (λj=>min ks.length vs.length-j.1) (0,rk,rv) (Nat.zero_le _) ⟨rfl,rfl,rfl,rfl,rfl,rfl,trivial⟩ (.refl _)<|?_
 rintro⟨j,r1,r2⟩ hj
 dsimp only at hj⊢
 have hsl:=LJ ks vs g j
 have h1l:(((oL ks vs g j).map (·.1)).map encS).length=(oL ks vs g j).length:=by rw[List.length_map,List.length_map]
 have h2l:(bu ((oL ks vs g j).map (·.2))).length=(oL ks vs g j).length:=by rw[aS,List.length_map]
 by_cases hlt:j<min ks.length vs.length
 ·have hjk:j<ks.length:=by omega
  have hjv:j<vs.length:=by omega
  have Ij:=eY ks j hjk
  have hgv:=gH vs j hjv
  have hfv:=hb.2.2 vs[j] (List.getElem_mem hjv)
  have hcp:∀H,au Tryz.prog 44 [.agg (aC vs[j])] H (bB H (.agg (aC vs[j]))):=λH=>jF (kT vs[j] hfv H)
  have hmk:=aac ks[j] (List.getElem_mem hjk)
  have hsu:=Wh ks vs g j hjk hjv
  by_cases hgj:g ks[j]=true
  ·rw[if_pos hgj] at hsu
   have hlen:(oL ks vs g (j+1)).length=(oL ks vs g j).length+1:=by rw[hsu,List.length_append];rfl
   have ha1:(((oL ks vs g j).map (·.1)).map encS).take (oL ks vs g j).length++[[.v (.string ks[j])]]=((oL ks vs g (j+1)).map (·.1)).map encS:=by
    rw[List.take_of_length_le (by omega),hsu,List.map_append,List.map_append];rfl
   have ha2:(bu ((oL ks vs g j).map (·.2))).take (oL ks vs g j).length++[aC vs[j]]=bu ((oL ks vs g (j+1)).map (·.2)):=by
    rw[List.take_of_length_le (by omega),hsu,List.map_append,eX,eX,List.map_append];rfl
   refine Q.rg<|Q.bi U U U<|Q.nt<|S.sq<|S.cT U (decide_eq_true (by omega))<|UW.skip<|UQ.then<|S.sq<|UW.block<|Q.rg<|Q.mv U<|Q.as U<|Q.nt<|Q.rg<|Q.mv U<|Q.fa dJ U<|Q.lc 4 dB U U U<|Q.mv U<|S.qu (Z.ia aZ U U (by omega) (by assumption) (by rfl))<|?_
   refine S.qu (Z.fO dW U)<|S.qu (Z.oV U U (λhd=>hmk _ (o9 hd)))<|Q.nt<|S.cT U (by assumption)<|?_
   refine S.sq<|?_
   refine' UW.bG (by kernel_rfl) [0,1,0,4,0,28,60,124,255,511,1023] [some 25,some 26,some 27,some 28,some 29,some 30,some 31,some 32,none,none,none] [some (25,_),some (26,_),some (27,_),some (28,_),some (29,_),some (30,_),some (31,_),some (32,_),none,none,none] [8,9,10] [1,3,6] U (by decide) (by decide) (M.free (by decide) U U ?iU (M.held (by decide) U U ?iV (M.free (by decide) U U ?iW (M.held (by decide) U U ?iX (M.free (by decide) U U ?iY (M.free (by decide) U U ?iZ (M.held (by decide) U U ?ja (M.free (by decide) U U ?kH (M.skip (M.skip (M.skip M.nil))))))))))) ?sI
   case iU=>(intro _;exact Z.fa dJ rfl)
   case iV=>exact Z.dM 2 dB rfl rfl rfl
   case iW=>(intro _;exact Z.fa dJ rfl)
   case iX=>exact Z.dM 4 dB rfl rfl rfl
   case iY=>(intro _;exact Z.mv rfl)
   case iZ=>(intro _;exact Z.ia aZ rfl rfl (by omega) (by assumption) (by rfl))
   case ja=>exact Z.fO dW rfl
   case kH=>(intro _;exact Z.bl dQ rfl rfl (bz rfl))
   refine CH.cons U U (by decide)<|D.apl 1 (oL ks vs g (j+1)).length dQ U U (by omega) U (.sl (kz U)) (by first|omega|(simp;omega)) ha1 hlen.symm λp33=>?_
   refine CH.cons U U (by decide)<|D.qu (Z.fa dJ U)<|CH.bX U U<|D.st 2 dB U U U U U U U U λ_=>CH.nil<|?_
   simp only[app,bS]
   refine UQ.then<|?_
   refine' UW.bG (by kernel_rfl) [0,1,0,4,0,28,60,124,252,511,1023,2047] [some 35,some 36,some 37,some 38,some 39,some 40,some 41,some 42,some 43,none,none,none] [some (35,_),some (36,_),some (37,_),some (38,_),some (39,_),some (40,_),some (41,_),some (42,_),some (43,_),none,none,none] [9,10,11] [1,3,6] U (by decide) (by decide) (M.free (by decide) U U ?QA (M.held (by decide) U U ?QB (M.free (by decide) U U ?QC (M.held (by decide) U U ?QD (M.free (by decide) U U ?QE (M.free (by decide) U U ?QG (M.held (by decide) U U ?QH (M.free (by decide) U U ?QI (M.free (by decide) U U ?q1x1_8 (M.skip (M.skip (M.skip M.nil)))))))))))) ?q1x1_k
   case QA=>(intro _;exact Z.fa bU rfl)
   case QB=>exact Z.dM 2 dR rfl rfl rfl
   case QC=>(intro _;exact Z.fa bU rfl)
   case QD=>exact Z.dM 4 dR rfl rfl rfl
   case QE=>(intro _;exact Z.mv rfl)
   case QG=>(intro _;exact Z.ia bP rfl rfl (by omega) (by assumption) (by exact Y _))
   case QH=>exact Z.IG av rfl (Y _)
   case QI=>(intro _;exact Z.call rfl rfl (λH=>hcp H))
   case q1x1_8=>(intro _;exact Z.bl jw rfl rfl (by intro cs h;cases List.mem_singleton.1 h;exact⟨by first|rfl|exact az _,by first|rfl|exact Y _⟩))
   refine CH.cons U U (by decide)<|D.apl 1 (oL ks vs g (j+1)).length jw U U (by omega) U (.sl (by intro cs h;cases List.mem_singleton.1 h;exact Y _)) (by first|omega|(simp;omega)) ha2 hlen.symm λp44=>?_
   refine CH.cons U U (by decide)<|D.qu (Z.fa bU U)<|CH.bX U U<|D.st 2 dR U U U U U U U U λ_=>CH.nil<|?_
   simp only[app,bS]
   refine UQ.aB<|UQ.then<|S.rg<|S.qu (Z.add (r:=((j+1:Nat):Int)) U U (IntWalk.i64_in _ (by omega)))<|Q.mv U<|US.nil<|?_
   refine S.back (j+1,p33,p44) ⟨rfl,rfl,rfl,rfl,rfl,rfl,trivial⟩ (.refl _) (by omega) (by omega)
  ·rw[if_neg hgj,List.append_nil] at hsu
   rw[<-hsu]
   refine Q.rg<|Q.bi U U U<|Q.nt<|S.sq<|S.cT U (decide_eq_true (by omega))<|UW.skip<|UQ.then<|S.sq<|UW.block<|Q.rg<|Q.mv U<|Q.as U<|Q.nt<|Q.rg<|Q.mv U<|Q.fa dJ U<|Q.lc 4 dB U U U<|Q.mv U<|S.qu (Z.ia aZ U U (by omega) (by assumption) (by rfl))<|?_
   refine S.qu (Z.fO dW U)<|S.qu (Z.oV U U (λhd=>hmk _ (o9 hd)))<|Q.nt<|?_
   refine S.cB U (λhc24=>?_) (λhc24=>?_)
   contradiction
   refine UW.skip<|UQ.aB<|UQ.then<|S.rg<|S.qu (Z.add (r:=((j+1:Nat):Int)) U U (IntWalk.i64_in _ (by omega)))<|Q.mv U<|US.nil<|?_
   refine S.back (j+1,r1,r2) ⟨rfl,rfl,rfl,rfl,rfl,rfl,trivial⟩ (.refl _) (by omega) (by omega)
 ·have hjm:j=min ks.length vs.length:=by omega
  subst hjm
  have e1:(jA (.mk k n t ks vs) g).ks.length=(oL ks vs g (min ks.length vs.length)).length:=List.length_map ..
  have e2:(jA (.mk k n t ks vs) g).vs.length=(oL ks vs g (min ks.length vs.length)).length:=List.length_map ..
  refine Q.rg<|Q.bi U U U<|Q.nt<|S.sq<|S.cF U (decide_eq_false (by omega))<|UW.exit<|UQ.pass<|UQ.pass<|UQ.here<|UQ.then<|Q.rg<|S.qu (Z.bW 2 av U U U)<|S.s<|D.st 3 av U U U U U U U U λ_=>Q.nt<|UW.ret<|?_
  exact bR [_,_] (λhd=>aX (k:=3) hd U U U gQ gT) (.cons_cons _ (.cons_cons _ (List.nil_sublist _))) λhd=>⟨_,hd,rfl,r1,r2,_,_,by rw[e1,e2];rfl,rfl,by rw[e1,h1l];exact Nat.le_refl _,by rw[e1,<-h1l,List.take_length];rfl,by rw[e2,h2l];exact Nat.le_refl _,by rw[e2,<-h2l,List.take_length];rfl⟩
theorem Jd(x:V)(hx:Fits x)(f:Nat)(df:List AV)(g:ByteArray->Bool)(H:Hp)(aac:∀k∈x.ks,∀H',Sub H H'->au Tryz.prog f ([.v (.string k)]++df) H' (bB H' (.v (.bool (g k))))):au Tryz.prog 131 [.agg (aC x),.iF f df] H (bB H (.agg (aC (jA x g)))):=xW (Wi x hx f df g H aac)
theorem yl{x:V}(hx:Fits x)(g:ByteArray->Bool):Fits (jA x g):=by
 cases hx with
 |mk k n t ks vs h1 h2 h3=>
  have hsl:=LJ ks vs g (min ks.length vs.length)
  refine .mk _ _ _ _ _ (by show(List.map _ (oL ks vs g (min ks.length vs.length))).length<=_;rw[List.length_map];omega) (by show(List.map _ (oL ks vs g (min ks.length vs.length))).length<=_;rw[List.length_map];omega) λy hy=>?_
  obtain⟨p,hp,rfl⟩:=List.mem_map.1 hy
  exact h3 _ (List.of_mem_zip (List.mem_of_mem_take (List.mem_filter.1 hp).1)).2
def dN:ByteArray:=⟨#[116,121,112,101]⟩
def aO:ByteArray:=⟨#[99,111,110,116,101,110,116]⟩
def uZ(x:V):V:=jA x (hasB dH)
def u6(x:V):V:=(aH (uZ x) aO).1
def jT(x:V):V:=if x.k=5 then(if (u6 x).k=5 then aQ (uZ x) aO (jA (u6 x) (gK (aH x dN).1.t)) else uZ x) else zeroV
theorem Ub(key:ByteArray)(p:Nat)(H:Hp)(hp:H p=some (.box 23 [strs dH])):au Tryz.prog 132 [.v (.string key),.ptr p 0] H (bB H (.v (.bool (hasB dH key)))):=by
 refine aF (n:=7) (H0:=H) (I:=[]) Tryz.func132 (by kernel_rfl) U (by rw[Tryz.ntmps132];rfl) .nil<|?_
 refine Q.rg<|Q.as U<|Q.nt<|Q.rg<|S.qu (Z.ldo (by assumption) dB U U)<|?_
 refine Q.mv U<|S.qu (Z.call U U (λH=>nZ dH key (by decide) H))<|Q.as U<|Q.nt<|UW.ret<|S.bH (λ_=>ak U U)<|?_
 rfl
theorem Uc(key:ByteArray)(p:Nat)(y:V)(H:Hp)(hG:fA H)(hp:H p=some (.box 26 (aC y))):au Tryz.prog 133 [.v (.string key),.ptr p 0] H (bB H (.v (.bool (gK y.t key)))):=by
 obtain⟨k,n,t,ks,vs⟩:=y
 refine aF (n:=8) (H0:=H) (I:=[]) Tryz.func133 (by kernel_rfl) U (by rw[Tryz.ntmps133];rfl) .nil<|?_
 refine Q.rg<|Q.as U<|Q.nt<|Q.rg<|Q.fa kY U<|S.qu (Z.ldo (by assumption) dW U U)<|?_
 refine Q.mv U<|S.qu (Z.bK U U (λ_ hS=>Ua t key _ (hG.mono hS)))<|Q.as U<|Q.nt<|UW.ret<|S.bH (λ_=>ak U U)<|?_
 rfl
theorem mR{x:V}(hx:Fits x)(s:ByteArray):Fits (aH x s).1:=by
 unfold aH
 split
 ·rename_i i hp
  cases hx with
  |mk k n t ks vs h1 h2 h3=>
   have hi:i<vs.length:=by
    unfold pl at hp
    split at hp
    ·split at hp
     ·split at hp
      ·rename_i h;cases hp;exact h
      ·cases hp
     ·cases hp
    ·cases hp
   exact h3 _ (fI hi)
 ·exact nQ
theorem NT(x:V)(hx:Fits x)(H:Hp)(hG:fA H):au Tryz.prog 92 [.agg (aC x)] H (bB H (.agg (aC (jT x)))):=by
 have ho:Fits (uZ x):=yl hx _
 have hc:Fits (u6 x):=mR ho _
 have hpk:Fits (jA (u6 x) (gK (aH x dN).1.t)):=yl hc _
 by_cases hk:x.k=5
 ·have LK:jT x=if (u6 x).k=5 then aQ (uZ x) aO (jA (u6 x) (gK (aH x dN).1.t)) else uZ x:=by unfold jT;rw[if_pos hk]
  have hg1:∀H,au Tryz.prog 63 [.agg (aC x),.v (.string dN)] H (bB H (.kX [.agg (aC (aH x dN).1),.v (.bool (aH x dN).2)])):=λH=>tq x hx dN H
  have hg2:∀H,au Tryz.prog 63 [.agg (aC (uZ x)),.v (.string aO)] H (bB H (.kX [.agg (aC (u6 x)),.v (.bool (aH (uZ x) aO).2)])):=λH=>tq (uZ x) ho aO H
  have hpick1:∀p H,H p=some (.box 23 [strs dH])->au Tryz.prog 131 [.agg (aC x),.iF 132 [.ptr p 0]] H (bB H (.agg (aC (uZ x)))):=λp H h=>Jd x hx _ _ _ H (λk _ H' hs=>Ub k p H' (hs _ _ h))
  have Wj:∀p H,fA H->H p=some (.box 26 (aC (aH x dN).1))->au Tryz.prog 131 [.agg (aC (u6 x)),.iF 133 [.ptr p 0]] H (bB H (.agg (aC (jA (u6 x) (gK (aH x dN).1.t))))):=λp H h1 h=>Jd (u6 x) hc _ _ _ H (λk _ H' hs=>Uc k p _ H' (h1.mono hs) (hs _ _ h))
  have hwith:∀H,au Tryz.prog 77 [.agg (aC (uZ x)),.v (.string aO),.agg (aC (jA (u6 x) (gK (aH x dN).1.t)))] H (bB H (.agg (aC (aQ (uZ x) aO (jA (u6 x) (gK (aH x dN).1.t)))))):=λH=>xZ (uZ x) ho aO _ hpk H
  rw[LK]
  clear LK
  generalize uZ x=o at*
  generalize u6 x=c at*
  generalize jA c (gK (aH x dN).1.t)=pc at*
  generalize (aH x dN).1=kd at*
  generalize (aH x dN).2=kb at*
  generalize (aH o aO).2=cb at*
  obtain⟨k,n,t,ks,vs⟩:=x
  obtain⟨ck,cn,ct,cks,cvs⟩:=c
  have hk':k=5:=hk
  subst hk'
  refine aF (n:=36) (H0:=H) (I:=[]) Tryz.func92 (by kernel_rfl) U (by rw[Tryz.ntmps92];rfl) .nil<|?_
  refine Q.rg<|S.dd<|D.box U U U λp1=>S.dd<|D.al z26 U U U λp2=>Q.nt<|S.sq<|Q.rg<|Q.fa bT U<|Q.lc 1 fB U U U<|Q.bi U U U<|Q.nt<|S.cF U (mJ (by omega))<|UW.skip<|UQ.then<|Q.rg<|S.qu (Z.bK U U (λ_ hS=>DC uj dH (by decide) (by decide) LG (by decide) _ (hG.mono hS)))<|S.dd<|D.al z23 U U U λp3=>S.s<|D.st 0 dB U U U U U U U U λ_=>Q.nt<|Q.rg<|S.qu (Z.bW 2 av U U U)<|S.qu (Z.mf U)<|S.qu (Z.oV U U (λhd=>hpick1 p3 _ (hd.at_ (k:=0) U)))<|S.dd<|D.al z26 U U U λp4=>S.s<|D.vW 0 av U U U U (by exact az _) (Y _) U U λ_=>?_
  refine Q.nt<|Q.rg<|S.qu (Z.bW 3 av U U U)<|S.qu (Z.call U U (λH=>hg1 H))<|Q.mv U<|S.qu (Z.ex U U)<|S.qu (Z.ex U U)<|S.dd<|D.al z26 U U U λp5=>S.s<|D.vW 0 av U U U U (by exact az _) (Y _) U U λ_=>?_
  refine Q.as U<|Q.nt<|S.sq<|Q.rg<|S.qu (Z.bW 1 av U U (Y _))<|S.qu (Z.call U U (λH=>hg2 H))<|Q.mv U<|S.qu (Z.ex U U)<|S.qu (Z.ex U U)<|S.dd<|D.al z26 U U U λp7=>S.s<|D.st 0 av U U U U U U U U λ_=>Q.as U<|Q.nt<|Q.rg<|Q.fa bT U<|Q.lc 0 fB U U U<|Q.bi U U U<|Q.nt<|?_
  refine S.cE U (λhc29=>?_) (λhc29=>?_)
  refine' UW.U3 (by kernel_rfl) [0] [0,0,0,6,15,31] [none,some 31,some 32,none,none,none] [none,some (31,_),some (32,_),none,none,none] [0,3,4,5] [3,0,4,5] [] U (by decide) (by decide) (by decide) (by decide) (M.skip (M.kept (by decide) U U ?uI (M.free (by decide) U U ?uJ (M.skip (M.skip (M.skip M.nil)))))) ?J8 ?q6x0_k2
  case uI=>(intro _ hK;exact Z.kw 0 hK av rfl rfl rfl)
  case uJ=>(intro _;exact Z.mf rfl)
  refine CH.cons U U (by decide) ?_ (.c 0 U .n)
  refine D.qu (Z.bW 2 av U U (Y _))<|?_
  refine CH.cons U U (by decide) ?_ (.c 0 U .n)
  refine D.qu (Z.oV U U (λhd=>Wj p5 _ (hG.ext hd) (hd.at_ (k:=1) U)))<|?_
  refine CH.cons U U (by decide) ?_ (.c 0 U .n)
  refine D.qu (Z.call U U (λH=>hwith H))<|?_
  refine CH.bX U U ?_ (.c 0 U .n)
  refine D.vW 2 av U U U U (by exact az _) (Y _) (Y _) U λ_=>?_
  refine CH.nil ?_ (.c 0 U .n)
  simp only[app,bS]
  refine UQ.then<|Q.rg<|S.qu (Z.bW 2 av U U (Y _))<|S.s<|D.vW 4 av U U U U (by exact az _) (Y _) U U λ_=>?_
  refine Q.nt<|UW.ret<|S.bH (λhd=>aX (k:=4) hd U U U gQ (by rw[Y];exact gT))<|?_
  focus ((split<;>first|rfl|(exact absurd hc29 (by assumption))|(exact absurd (by assumption) hc29));done)
  refine CH.cons U U (by decide) ?_ (.c 0 U .n)
  refine D.qu (Z.oV U U (λhd=>Wj p5 _ (hG.ext hd) (hd.at_ (k:=1) U)))<|?_
  refine CH.cons U U (by decide) ?_ (.c 0 U .n)
  refine D.qu (Z.bW 2 av U U (Y _))<|?_
  refine CH.cons U U (by decide) ?_ (.c 0 U .n)
  refine D.qu (Z.call U U (λH=>hwith H))<|?_
  refine CH.bX U U ?_ (.c 0 U .n)
  refine D.vW 2 av U U U U (by exact az _) (Y _) (Y _) U λ_=>?_
  refine CH.nil ?_ (.c 0 U .n)
  simp only[app,bS]
  refine UQ.swap<|UQ.then<|Q.rg<|S.qu (Z.bW 2 av U U (Y _))<|S.s<|D.vW 4 av U U U U (by exact az _) (Y _) U U λ_=>?_
  refine Q.nt<|UW.ret<|S.bH (λhd=>aX (k:=4) hd U U U gQ (by rw[Y];exact gT))<|?_
  focus ((split<;>first|rfl|(exact absurd hc29 (by assumption))|(exact absurd (by assumption) hc29));done)
  refine UW.skip<|UQ.then<|Q.rg<|S.qu (Z.bW 2 av U U (Y _))<|S.s<|D.vW 4 av U U U U (by exact az _) (Y _) U U λ_=>?_
  refine Q.nt<|UW.ret<|S.bH (λhd=>aX (k:=4) hd U U U gQ (by rw[Y];exact gT))<|?_
  focus ((split<;>first|rfl|(exact absurd hc29 (by assumption))|(exact absurd (by assumption) hc29));done)
 ·have LK:jT x=zeroV:=by unfold jT;rw[if_neg hk]
  rw[LK]
  obtain⟨k,n,t,ks,vs⟩:=x
  have hk':¬k=5:=hk
  refine aF (n:=36) (H0:=H) (I:=[]) Tryz.func92 (by kernel_rfl) U (by rw[Tryz.ntmps92];rfl) .nil<|?_
  refine Q.rg<|S.dd<|D.box U U U λp1=>S.dd<|D.al z26 U U U λp2=>Q.nt<|S.sq<|Q.rg<|Q.fa bT U<|Q.lc 1 fB U U U<|Q.bi U U U<|Q.nt<|S.cT U (rP (by omega))<|Q.rg<|S.qu (Z.bd [] gU U U U U U U)<|S.s<|D.st 0 av U U U U U U U U λ_=>Q.nt<|UW.ret<|UQ.ax<|S.bH (λhd=>aX (k:=0) hd U U U gQ gT)<|?_
  rfl
theorem NU(ks:List ByteArray)(key:ByteArray):(∀j (h:j<ks.length),j<bY ks key->eD ks[j] key=true)/\(∀h:bY ks key<ks.length,eD ks[bY ks key] key=false):=by
 cases h:ks.findIdx? (λk=>!(eD k key)) with
 |none=>
  have e:bY ks key=ks.length:=by unfold bY uD;rw[h];rfl
  rw[e]
  rw[List.findIdx?_eq_none_iff] at h
  refine⟨λj hj _=>?_,λh=>absurd h (by omega)⟩
  have:=h _ (List.getElem_mem hj)
  simpa using this
 |some i=>
  have e:bY ks key=i:=by
   unfold bY uD;rw[h]
   show(if (i:Int)<0 then _ else(i:Int).toNat)=i
   rw[if_neg (by omega)];rfl
  obtain⟨h1,h2,h3⟩:=List.findIdx?_eq_some_iff_getElem.1 h
  refine⟨λj hj hji=>?_,λh=>?_⟩
  ·have:=h3 j (by omega)
   simpa using this
  ·simp only[e]
   simpa using h2
theorem nR{α:Type}(l:List α)(p:Nat)(x z:α)(hp:p<=l.length)(k:Nat):(eB l p x).getD k z=if k<p then l.getD k z else if k=p then x else l.getD (k-1) z:=by
 unfold eB
 simp only[List.getD]
 by_cases h1:k<p
 ·rw[if_pos h1,List.getElem?_append_left (by rw[List.length_take];omega),List.getElem?_take,if_pos h1]
 ·rw[if_neg h1,List.getElem?_append_right (by rw[List.length_take];omega),List.length_take,Nat.min_eq_left hp]
  by_cases h2:k=p
  ·rw[if_pos h2,h2,Nat.sub_self];rfl
  ·rw[if_neg h2]
   obtain⟨d,rfl⟩:∃d,k=p+1+d:=⟨k-p-1,by omega⟩
   rw[show p+1+d-p=d+1 from by omega,List.getElem?_cons_succ,List.getElem?_drop,show p+1+d-1=p+d from by omega]
theorem R8{ks:List ByteArray}(h:Asc ks){i j:Nat}(hij:i<j)(hj:j<ks.length):eD (ks.getD i ⟨#[]⟩) (ks.getD j ⟨#[]⟩)=true:=by
 rw[getD_at (by omega),getD_at hj];exact h i j (by omega) hj hij
theorem LM{ks:List ByteArray}(h:Asc ks){key:ByteArray}(hn:key∉ks):Asc (eB ks (bY ks key) key):=by
 obtain⟨p1,p2⟩:=NU ks key
 have hp:=l5 ks key
 generalize bY ks key=p at*
 have hlen:=dA ks p key hp
 have up:∀m,p<=m->m<ks.length->eD key (ks.getD m ⟨#[]⟩)=true:=λm h1 h2=>by
  have h3:eD key (ks[p]'(by omega))=true:=V8 (p2 (by omega)) (λe=>hn (e▸List.getElem_mem _))
  by_cases e:m=p
  ·subst e;rw[getD_at h2];exact h3
  ·rw[getD_at h2];exact zU h3 (h p m (by omega) h2 (by omega))
 intro i j hi hj hij
 rw[<-getD_at (z:=⟨#[]⟩) hi,<-getD_at (z:=⟨#[]⟩) hj,nR _ _ _ _ hp,nR _ _ _ _ hp]
 by_cases a1:i<p
 ·rw[if_pos a1]
  by_cases b1:j<p
  ·rw[if_pos b1];exact R8 h hij (by omega)
  ·rw[if_neg b1]
   by_cases b2:j=p
   ·rw[if_pos b2,getD_at (by omega)];exact p1 i _ a1
   ·rw[if_neg b2];exact R8 h (by omega) (by omega)
 ·rw[if_neg a1,if_neg (by omega:¬j<p),if_neg (by omega:¬j=p)]
  by_cases a2:i=p
  ·rw[if_pos a2];exact up _ (by omega) (by omega)
  ·rw[if_neg a2];exact R8 h (by omega) (by omega)
theorem aad{ks:List ByteArray}(h:Asc ks)(i:Nat):Asc (cutAt ks i)/\∀s∈cutAt ks i,s∈ks:=by
 have hm:∀s∈cutAt ks i,s∈ks:=λs hs=>by
  unfold cutAt at hs
  rcases List.mem_append.1 hs with h|h
  ·exact List.mem_of_mem_take h
  ·exact List.mem_of_mem_drop h
 refine⟨λa b ha hb hab=>?_,hm⟩
 by_cases hi:i<ks.length
 ·have hl:=lZ hi
  have e:∀k (hk:k<(cutAt ks i).length),(cutAt ks i)[k]=ks.getD (if k<i then k else k+1) ⟨#[]⟩:=λk hk=>by
   rw[<-getD_at (z:=⟨#[]⟩) hk]
   unfold cutAt
   simp only[List.getD]
   by_cases h1:k<i
   ·rw[if_pos h1,List.getElem?_append_left (by rw[List.length_take];omega),List.getElem?_take,if_pos h1]
   ·rw[if_neg h1,List.getElem?_append_right (by rw[List.length_take];omega),List.length_take,Nat.min_eq_left (by omega),List.getElem?_drop,show i+1+(k-i)=k+1 from by omega]
  rw[e a ha,e b hb]
  refine R8 h ?_ ?_
  ·split<;>split<;>omega
  ·split<;>omega
 ·have e:cutAt ks i=ks:=by unfold cutAt;rw[List.take_of_length_le (by omega),List.drop_eq_nil_of_le (by omega),List.append_nil]
  simp only[e] at ha hb⊢
  exact h a b ha hb hab
theorem QJ{ks:List ByteArray}(h:Asc ks){i:Nat}(hi:i<ks.length):ks[i]∉cutAt ks i:=λhm=>by
 unfold cutAt at hm
 rcases List.mem_append.1 hm with h1|h1
 ·obtain⟨j,hj,e⟩:=List.getElem_of_mem h1
  rw[List.length_take] at hj
  rw[List.getElem_take] at e
  have:=LD h (by omega) hi e;omega
 ·obtain⟨j,hj,e⟩:=List.getElem_of_mem h1
  rw[List.length_drop] at hj
  rw[List.getElem_drop] at e
  have:=LD h (by omega) hi e;omega
section
variable {n:Int} {t:ByteArray} {ks:List ByteArray} {vs:List V}
theorem yo(hl:ks.length=vs.length)(key:ByteArray):pl (.mk 5 n t ks vs) key=dF ks key:=by
 unfold pl
 rw[vk,if_pos U,zl,Af]
 cases h:dF ks key with
 |none=>rfl
 |some i=>
  have:=nG h
  simp only
  rw[if_pos (by omega)]
theorem GR(hl:ks.length=vs.length):cutV (.mk 5 n t ks vs)=.mk 5 n t ks vs:=by
 rw[X4]
 simp only[vk,vn,vt,zl,Af]
 rw[hl,Nat.min_self,<-hl,List.take_length,hl,List.take_length]
theorem CK(hl:ks.length=vs.length){key:ByteArray}{i:Nat}(h:dF ks key=some i)(y:V):aQ (.mk 5 n t ks vs) key y=.mk 5 n t ks (vs.set i y):=by
 have e:fw (.mk 5 n t ks vs)=.mk 5 n t ks vs:=rfl
 unfold aQ
 rw[e,yo hl,h,GR hl]
 rfl
theorem CL(hl:ks.length=vs.length){key:ByteArray}(h:dF ks key=none)(y:V):aQ (.mk 5 n t ks vs) key y=.mk 5 n t (eB ks (bY ks key) key) (eB vs (bY ks key) y):=by
 have e:fw (.mk 5 n t ks vs)=.mk 5 n t ks vs:=rfl
 unfold aQ
 rw[e,yo hl,h,GR hl]
 rfl
theorem get_some(hl:ks.length=vs.length){key:ByteArray}{i:Nat}(h:dF ks key=some i):aH (.mk 5 n t ks vs) key=(vs.getD i zeroV,true):=by
 unfold aH;rw[yo hl,h];rfl
theorem get_none(hl:ks.length=vs.length){key:ByteArray}(h:dF ks key=none):aH (.mk 5 n t ks vs) key=(zeroV,false):=by
 unfold aH;rw[yo hl,h]
theorem R9(hl:ks.length=vs.length){key:ByteArray}{i:Nat}(h:dF ks key=some i):bq (.mk 5 n t ks vs) key=.mk 5 n t (cutAt ks i) (cutAt vs i):=by
 unfold bq;rw[yo hl,h,GR hl];rfl
theorem Sa(hl:ks.length=vs.length){key:ByteArray}(h:dF ks key=none):bq (.mk 5 n t ks vs) key=.mk 5 n t ks vs:=by
 unfold bq;rw[yo hl,h]
theorem CO{key:ByteArray}{i:Nat}(h:dF ks key=some i)(hi:i<ks.length):ks[i]=key:=by
 have:=I5 h
 rw[List.getElem?_eq_getElem hi] at this
 exact Option.some.inj this
theorem aae(ha:Asc ks){key:ByteArray}(h:dF ks key=none):dF (eB ks (bY ks key) key) key=some (bY ks key):=by
 have hp:=l5 ks key
 have hlen:=dA ks (bY ks key) key hp
 have hi:bY ks key<(eB ks (bY ks key) key).length:=by omega
 have e:(eB ks (bY ks key) key)[bY ks key]=key:=by
  rw[<-getD_at (z:=⟨#[]⟩) hi,nR _ _ _ _ hp,if_neg (by omega),if_pos U]
 have:=zV (LM ha (qL h)) hi
 rw[e] at this;exact this
theorem gY(hl:ks.length=vs.length)(ha:Asc ks)(key:ByteArray)(y:V):aH (aQ (.mk 5 n t ks vs) key y) key=(y,true):=by
 cases h:dF ks key with
 |some i=>
  have hi:=nG h
  rw[CK hl h,get_some (by rw[List.length_set];exact hl) h,getD_at (by rw[List.length_set];omega),List.getElem_set_self]
 |none=>
  have hp:=l5 ks key
  rw[CL hl h,get_some (by rw[dA _ _ _ hp,dA _ _ _ (by omega)];omega) (aae ha h),nR _ _ _ _ (by omega),if_neg (by omega),if_pos U]
theorem bZ(hl:ks.length=vs.length)(ha:Asc ks)(key other:ByteArray)(hne:other≠key)(y:V):aH (aQ (.mk 5 n t ks vs) key y) other=aH (.mk 5 n t ks vs) other:=by
 cases h:dF ks key with
 |some i=>
  have hi:=nG h
  rw[CK hl h]
  cases ho:dF ks other with
  |none=>rw[get_none (by rw[List.length_set];exact hl) ho,get_none hl ho]
  |some j=>
   have hj:=nG ho
   have hij:i≠j:=λe=>by
    subst e
    exact hne ((CO ho hj).symm.trans (CO h hi))
   rw[get_some (by rw[List.length_set];exact hl) ho,get_some hl ho,getD_at (by rw[List.length_set];omega),List.getElem_set_ne hij,getD_at (by omega)]
 |none=>
  have hp:=l5 ks key
  have hl2:(eB ks (bY ks key) key).length=(eB vs (bY ks key) y).length:=by rw[dA _ _ _ hp,dA _ _ _ (by omega)];omega
  have hasc:=LM ha (qL h)
  rw[CL hl h]
  cases ho:dF ks other with
  |none=>
   have:dF (eB ks (bY ks key) key) other=none:=GK λhm=>by
    rcases tK hm with h1|h1
    ·exact qL ho h1
    ·exact hne h1
   rw[get_none hl2 this,get_none hl ho]
  |some j=>
   have hj:=nG ho
   have hkj:=CO ho hj
   generalize bY ks key=p at*
   have hlen:=dA ks p key hp
   have hi:(if j<p then j else j+1)<(eB ks p key).length:=by split<;>omega
   have e:(eB ks p key)[if j<p then j else j+1]=other:=by
    rw[<-getD_at (z:=⟨#[]⟩) hi,nR _ _ _ _ hp]
    by_cases h1:j<p
    ·rw[if_pos h1,if_pos h1,getD_at hj];exact hkj
    ·rw[if_neg h1,if_neg (by omega),if_neg (by omega),Nat.add_sub_cancel,getD_at hj];exact hkj
   have hk:=zV hasc hi
   rw[e] at hk
   rw[get_some hl2 hk,get_some hl ho,nR _ _ _ _ (by omega)]
   congr 1
   by_cases h1:j<p
   ·rw[if_pos h1,if_pos h1]
   ·rw[if_neg h1,if_neg (by omega),if_neg (by omega),Nat.add_sub_cancel]
theorem LP(hl:ks.length=vs.length)(ha:Asc ks)(key:ByteArray):∃ks' vs',bq (.mk 5 n t ks vs) key=.mk 5 n t ks' vs'/\ks'.length=vs'.length/\Asc ks'/\dF ks' key=none/\(∀s∈ks',s∈ks)/\∀v∈vs',v∈vs:=by
 cases h:dF ks key with
 |some i=>
  have hi:=nG h
  obtain⟨h1,h2⟩:=aad ha i
  refine⟨_,_,R9 hl h,by rw[lZ hi,lZ (by omega)];omega,h1,GK ?_,h2,λv hv=>?_⟩
  ·have:=QJ ha hi
   rw[CO h hi] at this;exact this
  ·unfold cutAt at hv
   rcases List.mem_append.1 hv with h|h
   ·exact List.mem_of_mem_take h
   ·exact List.mem_of_mem_drop h
 |none=>exact⟨_,_,Sa hl h,hl,ha,h,λ_ h=>h,λ_ h=>h⟩
theorem CP(hl:ks.length=vs.length)(ha:Asc ks)(key:ByteArray)(y:V):∃ks' vs',aQ (.mk 5 n t ks vs) key y=.mk 5 n t ks' vs'/\ks'.length=vs'.length/\Asc ks'/\(∀s∈ks',s∈ks\/s=key)/\∀v∈vs',v∈vs\/v=y:=by
 cases h:dF ks key with
 |some i=>exact⟨_,_,CK hl h y,by rw[List.length_set];exact hl,ha,λ_ h=> .inl h,λv hv=>List.mem_or_eq_of_mem_set hv⟩
 |none=>
  have hp:=l5 ks key
  exact⟨_,_,CL hl h y,by rw[dA _ _ _ hp,dA _ _ _ (by omega)];omega,LM ha (qL h),λs hs=>tK hs,λv hv=>tK hv⟩
theorem Je:dS (.mk 5 n t ks vs)=true↔(n=0/\sK 5 t=true/\oM ks=true/\ks.length=vs.length/\nW vs=true):=by
 rw[lM,zM,uT U,if_neg (by decide),if_neg (by decide)]
 have e:(decide ((5:Int)<4))=false:=by decide
 rw[e]
 simp[Bool.and_eq_true]
 constructor
 ·rintro⟨⟨⟨h1,h2,h3⟩,h4⟩,h5⟩;exact⟨h1,h4,h2,by omega,h5⟩
 ·rintro⟨h1,h4,h2,h3,h5⟩;exact⟨⟨⟨h1,h2,by omega⟩,h4⟩,h5⟩
end
end Go.Proofs.YtonpfomjoiaacaaGreatDoor
end
