/- A part of the proof. -/
import Derived.Test.YtonpfomjoiaacaaGreatDoorMz44
set_option maxRecDepth 100000
set_option maxHeartbeats 4000000
set_option linter.unusedSectionVars false
set_option linter.unusedVariables false
set_option linter.unusedSimpArgs false
section
namespace Go.Proofs.YtonpfomjoiaacaaGreatDoor
open Go Go.fT Go.RowKit
theorem qz(x:V)(H:Hp):au Tryz.prog 50 [.agg (aD x)] H (bz H (.v (.string x.t))):=by
 obtain⟨k,n,t,ks,vs⟩:=x
 refine aF (n:=5) (H0:=H) (I:=[]) Tryz.func50 (by kernel_rfl) U (by rw[Tryz.ntmps50];rfl) .nil ?_
 refine S.sq (S.rg ?_)
 refine S.dd (D.box U U U (λp1=>?_))
 refine S.qu (Z.as U) ?_
 refine US.nil (UQ.then (S.sq (S.rg ?_)))
 refine S.qu (Z.fa jZ U) ?_
 refine S.qu (Z.di 0 ed U U U) ?_
 refine S.qu (Z.as U) ?_
 refine US.nil (UQ.then (UW.ret ?_))
 refine S.bK (λ_=>ak U U) ?_
 rfl
theorem FJ(x:V)(H:Hp):au Tryz.prog 58 [.agg (aD x)] H (bz H (.v (.int .i64 x.n))):=by
 obtain⟨k,n,t,ks,vs⟩:=x
 refine aF (n:=5) (H0:=H) (I:=[]) Tryz.func58 (by kernel_rfl) U (by rw[Tryz.ntmps58];rfl) .nil ?_
 refine S.sq (S.rg ?_)
 refine S.dd (D.box U U U (λp1=>?_))
 refine S.qu (Z.as U) ?_
 refine US.nil (UQ.then (S.sq (S.rg ?_)))
 refine S.qu (Z.fa iA U) ?_
 refine S.qu (Z.di 0 qF U U U) ?_
 refine S.qu (Z.as U) ?_
 refine US.nil (UQ.then (UW.ret ?_))
 refine S.bK (λ_=>ak U U) ?_
 rfl
theorem BR(x:V)(H:Hp):au Tryz.prog 61 [.agg (aD x)] H (bz H (.agg (aD x))):=by
 obtain⟨k,n,t,ks,vs⟩:=x
 refine aF (n:=4) (H0:=H) (I:=[]) Tryz.func61 (by kernel_rfl) U (by rw[Tryz.ntmps61];rfl) .nil ?_
 refine S.sq (S.rg ?_)
 refine S.dd (D.box U U U (λp1=>?_))
 refine S.dd (D.al z26 U U U (λp2=>?_))
 refine US.nil (UQ.then (S.sq (S.rg ?_)))
 refine S.qu (Z.dA 1 av U U U) ?_
 refine S.s (D.st 0 av U U U U U U U U (λ_=>?_))
 refine US.nil (UQ.then (UW.ret ?_))
 refine S.bK (λhd=>aU (k:=0) hd U U U fV fZ) ?_
 rfl
theorem FK(x:V)(H:Hp):au Tryz.prog 62 [.agg (aD x)] H (bz H (.v (.bool true))):=by
 obtain⟨k,n,t,ks,vs⟩:=x
 refine aF (n:=3) (H0:=H) (I:=[]) Tryz.func62 (by kernel_rfl) U (by rw[Tryz.ntmps62];rfl) .nil ?_
 refine S.sq (S.rg ?_)
 refine S.dd (D.box U U U (λp1=>?_))
 refine S.qu (Z.as U) ?_
 refine US.nil (UQ.then (S.sq (S.rg ?_)))
 refine S.qu (Z.as U) ?_
 refine US.nil (UQ.then (UW.ret ?_))
 refine S.bK (λ_=>ak U U) ?_
 rfl
theorem FL(n:Int)(H:Hp):au Tryz.prog 59 [.v (.int .i64 n)] H (bz H (.v (.bool (decide (0<=n))))):=by
 refine aF (n:=5) (H0:=H) (I:=[]) Tryz.func59 (by kernel_rfl) U (by rw[Tryz.ntmps59];rfl) .nil ?_
 refine S.sq (S.rg ?_)
 refine S.qu (Z.as U) ?_
 refine US.nil (UQ.then (S.sq (S.rg ?_)))
 refine S.qu (Z.mv U) ?_
 refine S.qu (Z.bi U U U) ?_
 refine S.qu (Z.as U) ?_
 refine US.nil (UQ.then (UW.ret ?_))
 refine S.bK (λ_=>ak U U) ?_
 rfl
theorem Pz(s:ByteArray)(H:Hp):au Tryz.prog 64 [.v (.string s)] H (bz H (.v (.bool (decide (s.size<=80))))):=by
 have hq:decide ((s.size:Int)<=80)=decide (s.size<=80):=by rw[Bool.eq_iff_iff];simp;omega
 rw[<-hq]
 refine aF (n:=6) (H0:=H) (I:=[]) Tryz.func64 (by kernel_rfl) U (by rw[Tryz.ntmps64];rfl) .nil ?_
 refine S.sq (S.rg ?_)
 refine S.qu (Z.as U) ?_
 refine US.nil (UQ.then (S.sq (S.rg ?_)))
 refine S.qu (Z.mv U) ?_
 refine S.qu (Z.wP Tryz.underlying9 U) ?_
 refine S.qu (Z.bi U U U) ?_
 refine S.qu (Z.as U) ?_
 refine US.nil (UQ.then (UW.ret ?_))
 refine S.bK (λ_=>ak U U) ?_
 rfl
theorem Kk(s:ByteArray)(H:Hp):au Tryz.prog 51 [.v (.string s)] H (bz H (.v (.bool (Bi s)))):=by
 have hq:decide ((s.size:Int)<=80)=decide (s.size<=80):=by rw[Bool.eq_iff_iff];simp;omega
 have hem:=ow s
 unfold Bi
 rw[<-hq]
 by_cases h0:s.size=0
 ·rw[decide_eq_true h0] at hem
  rw[decide_eq_false (by omega:¬s.size≠0),Bool.false_and]
  refine aF (n:=10) (H0:=H) (I:=[]) Tryz.func51 (by kernel_rfl) U (by rw[Tryz.ntmps51];rfl) .nil ?_
  refine S.sq (S.rg ?_)
  refine S.qu (Z.as U) ?_
  refine US.nil (UQ.then (S.sq (S.rg ?_)))
  refine S.qu (Z.mv U) ?_
  refine S.qu (Z.eq (u':=.v (.bool false)) (Z.bs U U U) (congrArg (λb=>AV.v (.bool (!b))) hem)) ?_
  refine S.qu (Z.mv U) ?_
  refine S.qu (Z.of) ?_
  refine S.qu (Z.of) ?_
  refine S.qu (Z.of) ?_
  refine S.qu (Z.pick U U) ?_
  refine S.qu (Z.as U) ?_
  refine US.nil (UQ.then (UW.ret ?_))
  refine S.bK (λ_=>ak U U) ?_
  rfl
 ·rw[decide_eq_false h0] at hem
  rw[decide_eq_true (by omega:s.size≠0),Bool.true_and]
  refine aF (n:=10) (H0:=H) (I:=[]) Tryz.func51 (by kernel_rfl) U (by rw[Tryz.ntmps51];rfl) .nil ?_
  refine S.sq (S.rg ?_)
  refine S.qu (Z.as U) ?_
  refine US.nil (UQ.then (S.sq (S.rg ?_)))
  refine S.qu (Z.mv U) ?_
  refine S.qu (Z.eq (u':=.v (.bool true)) (Z.bs U U U) (congrArg (λb=>AV.v (.bool (!b))) hem)) ?_
  refine S.qu (Z.mv U) ?_
  refine S.qu (Z.on (Z.mv U)) ?_
  refine S.qu (Z.on (Z.wP Tryz.underlying9 U)) ?_
  refine S.qu (Z.on (Z.bi U U U)) ?_
  refine S.qu (Z.pick U U) ?_
  refine S.qu (Z.as U) ?_
  refine US.nil (UQ.then (UW.ret ?_))
  refine S.bK (λ_=>ak U U) ?_
  rfl
theorem zR(x:V)(hx:Fits x)(H:Hp):au Tryz.prog 55 [.agg (aD x)] H (bz H (strs (fA x))):=by
 obtain⟨k,n,t,ks,vs⟩:=x
 have hto:fA (.mk k n t ks vs)=vs.map λy=>if y.k=3 then y.t else⟨#[]⟩:=rfl
 have hvl:=aP vs
 have hb:vs.length<=1000000:=hx.Vl
 have htl:(fA (.mk k n t ks vs)).length=vs.length:=by rw[hto,List.length_map]
 generalize fA (.mk k n t ks vs)=tx at*
 unfold strs
 refine aF (n:=25) (H0:=H) (I:=[]) Tryz.func55 (by kernel_rfl) U (by rw[Tryz.ntmps55];rfl) .nil ?_
 refine S.sq (S.rg ?_)
 refine S.dd (D.box U U U (λp1=>?_))
 refine S.qu (Z.as U) ?_
 refine US.nil (UQ.then (S.sq (S.rg ?_)))
 refine S.qu (Z.as U) ?_
 refine US.kG 3 9 1 (by decide) U λid=>?_
 refine US.nil (UQ.then (S.sq (S.sq (S.rg ?_))))
 refine S.qu (Z.fa bO U) ?_
 refine S.qu (Z.di 1 dF U U U) ?_
 refine S.qu (Z.fG bM U) ?_
 refine S.qu (Z.mv U) ?_
 refine US.nil (UQ.then (UW.block ?_))
 refine S.loop (λx:Nat×Nat=>[(10,.v (.int .i64 (x.1:Int))),(9,.v (.int .i64 (vs.length:Int))),(8,.sl (aW vs)),(3,.own x.2 0 x.1 1)]) (λx=>[(x.2,.row 9 1 ((tx.take x.1).map encS))]) (λx=>x.1<=vs.length) (λx=>vs.length-x.1) (0,id) (Nat.zero_le _) ⟨rfl,by rw[<-hvl];rfl,rfl,rfl,trivial⟩ (.cons_cons _ (List.nil_sublist _)) ?_
 rintro⟨j,id⟩ hj
 dsimp only at hj⊢
 have wI:((tx.take j).map encS).length=j:=by rw[List.length_map,List.length_take];omega
 by_cases hlt:j<vs.length
 ·obtain⟨y,hgy,hyt⟩:∃y,(aW vs)[j]? =some (aD y)/\tx.getD j ⟨#[]⟩=(if y.k=3 then y.t else⟨#[]⟩):=⟨vs[j],fK vs j hlt,by rw[getD_at (by omega)];simp only[hto,List.getElem_map]⟩
  obtain⟨yk,yn,yt,yks,yvs⟩:=y
  have hsn:=EZ tx j (by omega)
  by_cases h3:yk=3
  ·have hsn:=hsn yt (by rw[hyt];exact if_pos h3)
   refine S.sq (S.rg ?_)
   refine S.qu (Z.bi U U U) ?_
   refine US.nil (UQ.then (S.sq ?_))
   refine S.cT U (decide_eq_true (by omega)) ?_
   refine UW.skip (UQ.then (S.sq (UW.block (S.sq (S.rg ?_)))))
   refine S.qu (Z.ia bM U U (by omega) (by assumption) (by rfl)) ?_
   refine S.qu (Z.Gm av U U) ?_
   refine S.dd (D.al z26 U U U (λp5=>?_))
   refine S.s (D.st 0 av U U U U U U U U (λ_=>?_))
   refine US.nil (UQ.then (S.sq (S.rg ?_)))
   refine S.qu (Z.fa jZ U) ?_
   refine S.qu (Z.di 0 ed U U U) ?_
   refine S.qu (Z.as U) ?_
   refine US.nil (UQ.then (S.sq (S.sq (S.rg ?_))))
   refine S.qu (Z.fa bP U) ?_
   refine S.qu (Z.di 0 eQ U U U) ?_
   refine S.qu (Z.bi U U U) ?_
   refine US.nil (UQ.then ?_)
   refine S.cF U (nL (by omega)) ?_
   refine UW.skip (UQ.then (S.rg ?_))
   refine S.qu (Z.mv U) ?_
   refine S.qu (Z.mv U) ?_
   refine S.qu (Z.bl dV U U (bA U)) ?_
   refine S.dd (D.apl 1 (j+1) dV U U (by omega) U (.sl (j3 U)) (by first|omega|(simp;omega)) hsn (by rfl) (λp22=>?_))
   refine S.qu (Z.as U) ?_
   refine US.nil (UQ.aB (UQ.then (S.rg ?_)))
   refine S.qu (Z.add (r:=((j+1:Nat):Int)) U U (IntWalk.i64_in _ (by omega))) ?_
   refine S.qu (Z.mv U) ?_
   refine US.nil ?_
   refine S.back (j+1,p22) ⟨rfl,rfl,rfl,rfl,trivial⟩ (by repeat (first|exact List.Sublist.refl _|exact List.nil_sublist _|refine .cons_cons _ ?_|refine .cons _ ?_)) (by omega) (by omega)
  ·have hsn:=hsn ⟨#[]⟩ (by rw[hyt];exact if_neg h3)
   refine S.sq (S.rg ?_)
   refine S.qu (Z.bi U U U) ?_
   refine US.nil (UQ.then (S.sq ?_))
   refine S.cT U (decide_eq_true (by omega)) ?_
   refine UW.skip (UQ.then (S.sq (UW.block (S.sq (S.rg ?_)))))
   refine S.qu (Z.ia bM U U (by omega) (by assumption) (by rfl)) ?_
   refine S.qu (Z.Gm av U U) ?_
   refine S.dd (D.al z26 U U U (λp5=>?_))
   refine S.s (D.st 0 av U U U U U U U U (λ_=>?_))
   refine US.nil (UQ.then (S.sq (S.rg ?_)))
   refine S.qu (Z.fa jZ U) ?_
   refine S.qu (Z.di 0 ed U U U) ?_
   refine S.qu (Z.as U) ?_
   refine US.nil (UQ.then (S.sq (S.sq (S.rg ?_))))
   refine S.qu (Z.fa bP U) ?_
   refine S.qu (Z.di 0 eQ U U U) ?_
   refine S.qu (Z.bi U U U) ?_
   refine US.nil (UQ.then ?_)
   refine S.cT U (uh (by omega)) ?_
   refine S.rg ?_
   refine S.qu (Z.as U) ?_
   refine US.nil (UQ.then (S.rg ?_))
   refine S.qu (Z.mv U) ?_
   refine S.qu (Z.mv U) ?_
   refine S.qu (Z.bl dV U U (bA U)) ?_
   refine S.dd (D.apl 1 (j+1) dV U U (by omega) U (.sl (j3 U)) (by first|omega|(simp;omega)) hsn (by rfl) (λp22=>?_))
   refine S.qu (Z.as U) ?_
   refine US.nil (UQ.aB (UQ.then (S.rg ?_)))
   refine S.qu (Z.add (r:=((j+1:Nat):Int)) U U (IntWalk.i64_in _ (by omega))) ?_
   refine S.qu (Z.mv U) ?_
   refine US.nil ?_
   refine S.back (j+1,p22) ⟨rfl,rfl,rfl,rfl,trivial⟩ (by repeat (first|exact List.Sublist.refl _|exact List.nil_sublist _|refine .cons_cons _ ?_|refine .cons _ ?_)) (by omega) (by omega)
 ·obtain rfl:j=vs.length:=by omega
  rw[List.take_of_length_le (by omega)] at wI⊢
  refine S.sq (S.rg ?_)
  refine S.qu (Z.bi U U U) ?_
  refine US.nil (UQ.then (S.sq ?_))
  refine S.cF U (decide_eq_false (by omega)) ?_
  refine UW.exit (UQ.pass (UQ.pass (UQ.here (UQ.then (S.sq (S.rg ?_))))))
  refine S.qu (Z.mv U) ?_
  refine US.gG 24 0 (rs:=tx.map encS) U U (by omega) (by rw[List.drop_zero];exact List.take_of_length_le (by omega)) ?_
  refine S.qu (Z.as U) ?_
  refine US.nil (UQ.then (UW.ret ?_))
  refine S.bK (λ_=>ak U U) ?_
  rfl
theorem zS(l:List ByteArray)(hl:l.length<=1000)(ha:∀s∈l,s.size<=1000/\(s.data.toList.all λb=>b.toNat<128)=true)(H:Hp):au Tryz.prog 56 [strs l] H (bz H (.v (.bool (gH l)))):=by
 have wI:(l.map encS).length=l.length:=List.length_map ..
 unfold strs
 by_cases hb:20<l.length
 ·have hn:gH l=false:=by unfold gH;rw[decide_eq_false (by omega),Bool.false_and]
  rw[hn]
  refine aF (n:=26) (H0:=H) (I:=[]) Tryz.func56 (by kernel_rfl) U (by rw[Tryz.ntmps56];rfl) .nil ?_
  refine S.sq (S.rg ?_)
  refine S.qu (Z.as U) ?_
  refine US.nil (UQ.then (S.sq (S.sq (S.rg ?_))))
  refine S.qu (Z.mv U) ?_
  refine S.qu (Z.fG aY U) ?_
  refine S.qu (Z.bi U U U) ?_
  refine US.nil (UQ.then ?_)
  refine S.cT U (decide_eq_true (by omega)) ?_
  refine S.sq (S.rg ?_)
  refine S.qu (Z.as U) ?_
  refine US.nil (UQ.then (UW.ret (UQ.ax ?_)))
  refine S.bK (λ_=>ak U U) ?_
  rfl
 ·refine aF (n:=26) (H0:=H) (I:=[]) Tryz.func56 (by kernel_rfl) U (by rw[Tryz.ntmps56];rfl) .nil ?_
  refine S.sq (S.rg ?_)
  refine S.qu (Z.as U) ?_
  refine US.nil (UQ.then (S.sq (S.sq (S.rg ?_))))
  refine S.qu (Z.mv U) ?_
  refine S.qu (Z.fG aY U) ?_
  refine S.qu (Z.bi U U U) ?_
  refine US.nil (UQ.then ?_)
  refine S.cF U (decide_eq_false (by omega)) ?_
  refine UW.skip (UQ.then (S.sq (S.sq (S.rg ?_))))
  refine S.qu (Z.mv U) ?_
  refine S.qu (Z.fG aY U) ?_
  refine S.qu (Z.mv U) ?_
  refine US.nil (UQ.then (UW.block ?_))
  refine S.loop (λj:Nat=>[(10,.v (.int .i64 (j:Int))),(9,.v (.int .i64 (l.length:Int))),(8,.sl (l.map encS)),(0,.sl (l.map encS))]) (λ_=>[]) (λj=>j<=l.length/\∀i,i<j->(rD (l.getD i ⟨#[]⟩)&&!hasB (l.take i) (l.getD i ⟨#[]⟩))=true) (λj=>l.length-j) 0 ⟨Nat.zero_le _,λi hi=>absurd hi (Nat.not_lt_zero _)⟩ ⟨rfl,by rw[<-wI];rfl,rfl,rfl,trivial⟩ (.refl _) ?_
  rintro j ⟨hj,hall⟩
  by_cases hlt:j<l.length
  ·obtain⟨s,hs,hg,hsz,hsa⟩:∃s,l.getD j ⟨#[]⟩=s/\(l.map encS)[j]? =some (encS s)/\s.size<=1000/\pO s=true:=⟨_,rfl,oD l j hlt,ha _ (eY hlt)⟩
   have hnm:=FH s (by omega) hsa
   have hct:=mK (l.take j) s (by rw[List.length_take];omega)
   have htk:(l.map encS).take j=(l.take j).map encS:=(List.map_take ..).symm
   unfold strs at hct
   have hno:(rD s&&!hasB (l.take j) s)=false->gH l=false:=λh=>by
    unfold gH
    have:((List.range l.length).all λi=>rD (l.getD i ⟨#[]⟩)&&!hasB (l.take i) (l.getD i ⟨#[]⟩))=false:=List.all_eq_false.2 ⟨j,List.mem_range.2 hlt,by rw[hs,h];decide⟩
    rw[this,Bool.and_false]
   have Ve:(rD s&&!hasB (l.take j) s)=true->∀i,i<j+1->(rD (l.getD i ⟨#[]⟩)&&!hasB (l.take i) (l.getD i ⟨#[]⟩))=true:=λh i hi=>by
    rcases Nat.lt_succ_iff_lt_or_eq.1 hi with h1|h1
    ·exact hall i h1
    ·rw[h1,hs];exact h
   cases hb1:rD s with
   |false=>
    rw[hb1] at hnm hno
    rw[hno U]
    refine S.sq (S.rg ?_)
    refine S.qu (Z.bi U U U) ?_
    refine US.nil (UQ.then (S.sq ?_))
    refine S.cT U (decide_eq_true (by omega)) ?_
    refine UW.skip (UQ.then (S.sq (UW.block (S.sq (S.rg ?_)))))
    refine S.qu (Z.mv U) ?_
    refine S.qu (Z.ia aY U U (by omega) (by assumption) (by rfl)) ?_
    refine S.qu (Z.fE ed U) ?_
    refine S.qu (Z.as U) ?_
    refine S.qu (Z.as U) ?_
    refine US.nil (UQ.then (S.sq (S.rg ?_)))
    refine S.qu (Z.mv U) ?_
    refine S.qu (Z.call U U (λ_=>hnm _)) ?_
    refine S.qu (Z.not U) ?_
    refine S.qu (Z.mv U) ?_
    refine S.tT 18 U ?_
    refine S.qu (Z.of) ?_
    refine S.qu (Z.of) ?_
    refine S.qu (Z.of) ?_
    refine S.qu (Z.of) ?_
    refine S.qu (Z.of) ?_
    refine S.qu (Z.pick U U) ?_
    refine US.nil (UQ.then ?_)
    refine S.cT U U ?_
    refine S.sq (S.rg ?_)
    refine S.qu (Z.as U) ?_
    refine US.nil (UQ.then (UW.ret (UQ.aH (UQ.ax (UQ.ax (UQ.aH (UQ.ax ?_)))))))
    refine S.bK (λ_=>ak U U) ?_
    rfl
   |true=>
    rw[hb1] at hnm hno Ve
    cases hb2:hasB (l.take j) s with
    |true=>
     rw[hb2] at hct hno
     rw[hno U]
     refine S.sq (S.rg ?_)
     refine S.qu (Z.bi U U U) ?_
     refine US.nil (UQ.then (S.sq ?_))
     refine S.cT U (decide_eq_true (by omega)) ?_
     refine UW.skip (UQ.then (S.sq (UW.block (S.sq (S.rg ?_)))))
     refine S.qu (Z.mv U) ?_
     refine S.qu (Z.ia aY U U (by omega) (by assumption) (by rfl)) ?_
     refine S.qu (Z.fE ed U) ?_
     refine S.qu (Z.as U) ?_
     refine S.qu (Z.as U) ?_
     refine US.nil (UQ.then (S.sq (S.rg ?_)))
     refine S.qu (Z.mv U) ?_
     refine S.qu (Z.call U U (λ_=>hnm _)) ?_
     refine S.qu (Z.not U) ?_
     refine S.qu (Z.mv U) ?_
     refine S.tF 18 U ?_
     refine S.qu (Z.on (Z.mv U)) ?_
     refine S.qu (Z.on (Z.mv U)) ?_
     refine S.qu (Z.on (Z.Vk aY U (jU l) (.hi (a:=j) U) (by omega) (by omega) (by rw[htk,List.drop_zero]))) ?_
     refine S.qu (Z.on (Z.mv U)) ?_
     refine S.qu (Z.on (Z.call U U (λH=>hct H))) ?_
     refine S.qu (Z.pick U U) ?_
     refine US.nil (UQ.then ?_)
     refine S.cT U U ?_
     refine S.sq (S.rg ?_)
     refine S.qu (Z.as U) ?_
     refine US.nil (UQ.then (UW.ret (UQ.aH (UQ.ax (UQ.ax (UQ.aH (UQ.ax ?_)))))))
     refine S.bK (λ_=>ak U U) ?_
     rfl
    |false=>
     rw[hb2] at hct Ve
     have Ve:=Ve U
     refine S.sq (S.rg ?_)
     refine S.qu (Z.bi U U U) ?_
     refine US.nil (UQ.then (S.sq ?_))
     refine S.cT U (decide_eq_true (by omega)) ?_
     refine UW.skip (UQ.then (S.sq (UW.block (S.sq (S.rg ?_)))))
     refine S.qu (Z.mv U) ?_
     refine S.qu (Z.ia aY U U (by omega) (by assumption) (by rfl)) ?_
     refine S.qu (Z.fE ed U) ?_
     refine S.qu (Z.as U) ?_
     refine S.qu (Z.as U) ?_
     refine US.nil (UQ.then (S.sq (S.rg ?_)))
     refine S.qu (Z.mv U) ?_
     refine S.qu (Z.call U U (λ_=>hnm _)) ?_
     refine S.qu (Z.not U) ?_
     refine S.qu (Z.mv U) ?_
     refine S.tF 18 U ?_
     refine S.qu (Z.on (Z.mv U)) ?_
     refine S.qu (Z.on (Z.mv U)) ?_
     refine S.qu (Z.on (Z.Vk aY U (jU l) (.hi (a:=j) U) (by omega) (by omega) (by rw[htk,List.drop_zero]))) ?_
     refine S.qu (Z.on (Z.mv U)) ?_
     refine S.qu (Z.on (Z.call U U (λH=>hct H))) ?_
     refine S.qu (Z.pick U U) ?_
     refine US.nil (UQ.then ?_)
     refine S.cF U U ?_
     refine UW.skip (UQ.aB (UQ.then (S.rg ?_)))
     refine S.qu (Z.add (r:=((j+1:Nat):Int)) U U (IntWalk.i64_in _ (by omega))) ?_
     refine S.qu (Z.mv U) ?_
     refine US.nil ?_
     refine S.back (j+1) ⟨rfl,rfl,rfl,rfl,trivial⟩ (.refl _) ?_ (by omega)
     exact⟨hlt,Ve⟩
  ·have he:gH l=true:=by
    unfold gH
    rw[decide_eq_true (by omega:l.length<=20),Bool.true_and,List.all_eq_true]
    exactλi hi=>hall i (by have:=List.mem_range.1 hi;omega)
   rw[he]
   refine S.sq (S.rg ?_)
   refine S.qu (Z.bi U U U) ?_
   refine US.nil (UQ.then (S.sq ?_))
   refine S.cF U (decide_eq_false (by omega)) ?_
   refine UW.exit (UQ.pass (UQ.pass (UQ.here (UQ.then (S.sq (S.rg ?_))))))
   refine S.qu (Z.as U) ?_
   refine US.nil (UQ.then (UW.ret ?_))
   refine S.bK (λ_=>ak U U) ?_
   rfl
def nI(p:Nat)(v:V)(ok:Bool):List (Nat×Ob):=[(p,.box 69 (aD v++[.v (.bool ok)]))]
theorem tZ(p:Nat)(v:V)(hv:Fits v)(ok:Bool)(key:ByteArray)(kind:Int)(G:Hp)(hd:aM G (nI p v ok)):au Tryz.prog 94 [.ptr p 0,.v (.string key),.v (.int .i64 kind)] (aC G (nI p v ok)) (λu H'=>∃news,aM G news/\H'=aC G news/\(u=.agg (aD (aI v key).1)/\news=nI p v (ok&&qG v key kind))):=by
 have hg:=qR v hv key
 have hf:qG v key kind=((aI v key).2&&decide ((aI v key).1.k=kind)):=rfl
 rw[hf]
 clear hf
 generalize (aI v key).2=b at*
 generalize (aI v key).1=y at*
 obtain⟨k,n,t,ks,vs⟩:=v
 obtain⟨yk,yn,yt,yks,yvs⟩:=y
 unfold nI at hd⊢
 cases ok with
 |false=>
  refine aF (n:=35) (H0:=G) (I:=_) Tryz.func94 (by kernel_rfl) U (by rw[Tryz.ntmps94];rfl) hd ?_
  refine S.sq (S.rg ?_)
  refine S.dd (D.al z26 U U U (λp6=>?_))
  refine US.nil (UQ.then (S.sq (S.rg ?_)))
  refine S.qu (Z.mv U) ?_
  refine S.qu (Z.nN U) ?_
  refine S.qu (Z.fa Va U) ?_
  refine S.qu (Z.QJ 1 av U U U) ?_
  refine S.qu (Z.mv U) ?_
  refine S.qu (Z.call U U (λH=>hg H)) ?_
  refine S.qu (Z.mv U) ?_
  refine S.qu (Z.ex U U) ?_
  refine S.qu (Z.ex U U) ?_
  refine S.dd (D.al z26 U U U (λp7=>?_))
  refine S.s (D.st 0 av U U U U U U U U (λ_=>?_))
  refine S.qu (Z.as U) ?_
  refine US.nil (UQ.then (S.sq (S.rg ?_)))
  refine S.qu (Z.mv U) ?_
  refine S.qu (Z.mv U) ?_
  refine S.qu (Z.nN U) ?_
  refine S.qu (Z.fa iC U) ?_
  refine S.qu (Z.di 2 oo U U U) ?_
  refine S.qu (Z.mv U) ?_
  refine S.qu (Z.of) ?_
  refine S.qu (Z.pick U U) ?_
  refine S.qu (Z.mv U) ?_
  refine S.qu (Z.of) ?_
  refine S.qu (Z.of) ?_
  refine S.qu (Z.of) ?_
  refine S.qu (Z.of) ?_
  refine S.qu (Z.pick U U) ?_
  refine S.qu (Z.nN U) ?_
  refine S.qu (Z.fa iC U) ?_
  refine S.s (D.st 2 oo U U U U U U U U (λ_=>?_))
  refine US.nil (UQ.then (S.sq (S.rg ?_)))
  refine S.qu (Z.dA 0 av U U U) ?_
  refine S.s (D.st 1 av U U U U U U U U (λ_=>?_))
  refine US.nil (UQ.then (UW.ret ?_))
  exact bN [_] (λhd=>aU (k:=1) hd U U U fV fZ) (.cons _ (.cons _ (.refl _))) λhd=>⟨_,hd,rfl,rfl,rfl⟩
 |true=>
  cases b with
  |false=>
   refine aF (n:=35) (H0:=G) (I:=_) Tryz.func94 (by kernel_rfl) U (by rw[Tryz.ntmps94];rfl) hd ?_
   refine S.sq (S.rg ?_)
   refine S.dd (D.al z26 U U U (λp6=>?_))
   refine US.nil (UQ.then (S.sq (S.rg ?_)))
   refine S.qu (Z.mv U) ?_
   refine S.qu (Z.nN U) ?_
   refine S.qu (Z.fa Va U) ?_
   refine S.qu (Z.QJ 1 av U U U) ?_
   refine S.qu (Z.mv U) ?_
   refine S.qu (Z.call U U (λH=>hg H)) ?_
   refine S.qu (Z.mv U) ?_
   refine S.qu (Z.ex U U) ?_
   refine S.qu (Z.ex U U) ?_
   refine S.dd (D.al z26 U U U (λp7=>?_))
   refine S.s (D.st 0 av U U U U U U U U (λ_=>?_))
   refine S.qu (Z.as U) ?_
   refine US.nil (UQ.then (S.sq (S.rg ?_)))
   refine S.qu (Z.mv U) ?_
   refine S.qu (Z.mv U) ?_
   refine S.qu (Z.nN U) ?_
   refine S.qu (Z.fa iC U) ?_
   refine S.qu (Z.di 2 oo U U U) ?_
   refine S.qu (Z.mv U) ?_
   refine S.qu (Z.on (Z.mv U)) ?_
   refine S.qu (Z.pick U U) ?_
   refine S.qu (Z.mv U) ?_
   refine S.qu (Z.of) ?_
   refine S.qu (Z.of) ?_
   refine S.qu (Z.of) ?_
   refine S.qu (Z.of) ?_
   refine S.qu (Z.pick U U) ?_
   refine S.qu (Z.nN U) ?_
   refine S.qu (Z.fa iC U) ?_
   refine S.s (D.st 2 oo U U U U U U U U (λ_=>?_))
   refine US.nil (UQ.then (S.sq (S.rg ?_)))
   refine S.qu (Z.dA 0 av U U U) ?_
   refine S.s (D.st 1 av U U U U U U U U (λ_=>?_))
   refine US.nil (UQ.then (UW.ret ?_))
   exact bN [_] (λhd=>aU (k:=1) hd U U U fV fZ) (.cons _ (.cons _ (.refl _))) λhd=>⟨_,hd,rfl,rfl,rfl⟩
  |true=>
   refine aF (n:=35) (H0:=G) (I:=_) Tryz.func94 (by kernel_rfl) U (by rw[Tryz.ntmps94];rfl) hd ?_
   refine S.sq (S.rg ?_)
   refine S.dd (D.al z26 U U U (λp6=>?_))
   refine US.nil (UQ.then (S.sq (S.rg ?_)))
   refine S.qu (Z.mv U) ?_
   refine S.qu (Z.nN U) ?_
   refine S.qu (Z.fa Va U) ?_
   refine S.qu (Z.QJ 1 av U U U) ?_
   refine S.qu (Z.mv U) ?_
   refine S.qu (Z.call U U (λH=>hg H)) ?_
   refine S.qu (Z.mv U) ?_
   refine S.qu (Z.ex U U) ?_
   refine S.qu (Z.ex U U) ?_
   refine S.dd (D.al z26 U U U (λp7=>?_))
   refine S.s (D.st 0 av U U U U U U U U (λ_=>?_))
   refine S.qu (Z.as U) ?_
   refine US.nil (UQ.then (S.sq (S.rg ?_)))
   refine S.qu (Z.mv U) ?_
   refine S.qu (Z.mv U) ?_
   refine S.qu (Z.nN U) ?_
   refine S.qu (Z.fa iC U) ?_
   refine S.qu (Z.di 2 oo U U U) ?_
   refine S.qu (Z.mv U) ?_
   refine S.qu (Z.on (Z.mv U)) ?_
   refine S.qu (Z.pick U U) ?_
   refine S.qu (Z.mv U) ?_
   refine S.qu (Z.on (Z.fa bP U)) ?_
   refine S.qu (Z.on (Z.di 0 eQ U U U)) ?_
   refine S.qu (Z.on (Z.mv U)) ?_
   refine S.qu (Z.on (Z.bi U U U)) ?_
   refine S.qu (Z.pick U U) ?_
   refine S.qu (Z.nN U) ?_
   refine S.qu (Z.fa iC U) ?_
   refine S.s (D.st 2 oo U U U U U U U U (λ_=>?_))
   refine US.nil (UQ.then (S.sq (S.rg ?_)))
   refine S.qu (Z.dA 0 av U U U) ?_
   refine S.s (D.st 1 av U U U U U U U U (λ_=>?_))
   refine US.nil (UQ.then (UW.ret ?_))
   exact bN [_] (λhd=>aU (k:=1) hd U U U fV fZ) (.cons _ (.cons _ (.refl _))) λhd=>⟨_,hd,rfl,rfl,rfl⟩
theorem uf(p:Nat)(v:V)(hv:Fits v)(ok:Bool)(key:ByteArray)(kind:Int)(tf mf:Nat)(tv:ByteArray)(mb:Bool)(ht:∀H,au Tryz.prog tf [.agg (aD (aI v key).1)] H (bz H (.v (.string tv))))(hm:∀H,au Tryz.prog mf [.v (.string tv)] H (bz H (.v (.bool mb))))(G:Hp)(hd:aM G (nI p v ok)):au Tryz.prog 49 [.ptr p 0,.v (.string key),.v (.int .i64 kind),.gN tf [],.gN mf []] (aC G (nI p v ok)) (λu H'=>∃news,aM G news/\H'=aC G news/\(u=.v (.string tv)/\news=nI p v (ok&&(qG v key kind&&mb)))):=by
 have hf:=tZ p v hv ok key kind
 have hb:(ok&&(qG v key kind&&mb))=((ok&&qG v key kind)&&mb):=(Bool.and_assoc ..).symm
 rw[hb]
 generalize (ok&&qG v key kind)=o2 at*
 generalize (aI v key).1=y at*
 obtain⟨k,n,t,ks,vs⟩:=v
 unfold nI at hd hf⊢
 cases o2 with
 |false=>
  refine aF (n:=31) (H0:=G) (I:=_) Tryz.func49 (by kernel_rfl) U (by rw[Tryz.ntmps49];rfl) hd ?_
  refine S.sq (S.rg ?_)
  refine S.qu (Z.as U) ?_
  refine US.nil (UQ.then (S.sq (S.rg ?_)))
  refine S.qu (Z.mv U) ?_
  refine S.qu (Z.mv U) ?_
  refine S.qu (Z.mv U) ?_
  refine S.qu (Z.mv U) ?_
  refine S.dd (D.co (.cons 0 U .nil) U U (λG hD=>hf G hD) ?_)
  rintro _ _ ⟨rfl,rfl⟩
  refine S.qu (Z.call U U (λH=>ht H)) ?_
  refine S.qu (Z.as U) ?_
  refine US.nil (UQ.then (S.sq (S.rg ?_)))
  refine S.qu (Z.mv U) ?_
  refine S.qu (Z.mv U) ?_
  refine S.qu (Z.nN U) ?_
  refine S.qu (Z.fa iC U) ?_
  refine S.qu (Z.di 0 oo U U U) ?_
  refine S.qu (Z.mv U) ?_
  refine S.qu (Z.of) ?_
  refine S.qu (Z.of) ?_
  refine S.qu (Z.of) ?_
  refine S.qu (Z.pick U U) ?_
  refine S.qu (Z.nN U) ?_
  refine S.qu (Z.fa iC U) ?_
  refine S.s (D.st 0 oo U U U U U U U U (λ_=>?_))
  refine US.nil (UQ.then (S.sq (S.rg ?_)))
  refine S.qu (Z.mv U) ?_
  refine S.qu (Z.as U) ?_
  refine US.nil (UQ.then (UW.ret ?_))
  exact bN [_] (λ_=>ak U U) (.refl _) λhd=>⟨_,hd,rfl,rfl,rfl⟩
 |true=>
  refine aF (n:=31) (H0:=G) (I:=_) Tryz.func49 (by kernel_rfl) U (by rw[Tryz.ntmps49];rfl) hd ?_
  refine S.sq (S.rg ?_)
  refine S.qu (Z.as U) ?_
  refine US.nil (UQ.then (S.sq (S.rg ?_)))
  refine S.qu (Z.mv U) ?_
  refine S.qu (Z.mv U) ?_
  refine S.qu (Z.mv U) ?_
  refine S.qu (Z.mv U) ?_
  refine S.dd (D.co (.cons 0 U .nil) U U (λG hD=>hf G hD) ?_)
  rintro _ _ ⟨rfl,rfl⟩
  refine S.qu (Z.call U U (λH=>ht H)) ?_
  refine S.qu (Z.as U) ?_
  refine US.nil (UQ.then (S.sq (S.rg ?_)))
  refine S.qu (Z.mv U) ?_
  refine S.qu (Z.mv U) ?_
  refine S.qu (Z.nN U) ?_
  refine S.qu (Z.fa iC U) ?_
  refine S.qu (Z.di 0 oo U U U) ?_
  refine S.qu (Z.mv U) ?_
  refine S.qu (Z.on (Z.mv U)) ?_
  refine S.qu (Z.on (Z.mv U)) ?_
  refine S.qu (Z.on (Z.call U U (λH=>hm H))) ?_
  refine S.qu (Z.pick U U) ?_
  refine S.qu (Z.nN U) ?_
  refine S.qu (Z.fa iC U) ?_
  refine S.s (D.st 0 oo U U U U U U U U (λ_=>?_))
  refine US.nil (UQ.then (S.sq (S.rg ?_)))
  refine S.qu (Z.mv U) ?_
  refine S.qu (Z.as U) ?_
  refine US.nil (UQ.then (UW.ret ?_))
  exact bN [_] (λ_=>ak U U) (.refl _) λhd=>⟨_,hd,rfl,rfl,rfl⟩
theorem FM(p:Nat)(v:V)(hv:Fits v)(ok:Bool)(key:ByteArray)(kind:Int)(tf mf:Nat)(tv:List ByteArray)(mb:Bool)(ht:∀H,au Tryz.prog tf [.agg (aD (aI v key).1)] H (bz H (strs tv)))(hm:∀H,au Tryz.prog mf [strs tv] H (bz H (.v (.bool mb))))(G:Hp)(hd:aM G (nI p v ok)):au Tryz.prog 54 [.ptr p 0,.v (.string key),.v (.int .i64 kind),.gN tf [],.gN mf []] (aC G (nI p v ok)) (λu H'=>∃news,aM G news/\H'=aC G news/\(u=strs tv/\news=nI p v (ok&&(qG v key kind&&mb)))):=by
 have hf:=tZ p v hv ok key kind
 have hb:(ok&&(qG v key kind&&mb))=((ok&&qG v key kind)&&mb):=(Bool.and_assoc ..).symm
 rw[hb]
 generalize (ok&&qG v key kind)=o2 at*
 generalize (aI v key).1=y at*
 obtain⟨k,n,t,ks,vs⟩:=v
 unfold nI at hd hf⊢
 cases o2 with
 |false=>
  refine aF (n:=31) (H0:=G) (I:=_) Tryz.func54 (by kernel_rfl) U (by rw[Tryz.ntmps54];rfl) hd ?_
  refine S.sq (S.rg ?_)
  refine S.qu (Z.as U) ?_
  refine US.nil (UQ.then (S.sq (S.rg ?_)))
  refine S.qu (Z.mv U) ?_
  refine S.qu (Z.mv U) ?_
  refine S.qu (Z.mv U) ?_
  refine S.qu (Z.mv U) ?_
  refine S.dd (D.co (.cons 0 U .nil) U U (λG hD=>hf G hD) ?_)
  rintro _ _ ⟨rfl,rfl⟩
  refine S.qu (Z.call U U (λH=>ht H)) ?_
  refine S.qu (Z.as U) ?_
  refine US.nil (UQ.then (S.sq (S.rg ?_)))
  refine S.qu (Z.mv U) ?_
  refine S.qu (Z.mv U) ?_
  refine S.qu (Z.nN U) ?_
  refine S.qu (Z.fa iC U) ?_
  refine S.qu (Z.di 0 oo U U U) ?_
  refine S.qu (Z.mv U) ?_
  refine S.qu (Z.of) ?_
  refine S.qu (Z.of) ?_
  refine S.qu (Z.of) ?_
  refine S.qu (Z.pick U U) ?_
  refine S.qu (Z.nN U) ?_
  refine S.qu (Z.fa iC U) ?_
  refine S.s (D.st 0 oo U U U U U U U U (λ_=>?_))
  refine US.nil (UQ.then (S.sq (S.rg ?_)))
  refine S.qu (Z.mv U) ?_
  refine S.qu (Z.as U) ?_
  refine US.nil (UQ.then (UW.ret ?_))
  exact bN [_] (λ_=>ak U U) (.refl _) λhd=>⟨_,hd,rfl,rfl,rfl⟩
 |true=>
  refine aF (n:=31) (H0:=G) (I:=_) Tryz.func54 (by kernel_rfl) U (by rw[Tryz.ntmps54];rfl) hd ?_
  refine S.sq (S.rg ?_)
  refine S.qu (Z.as U) ?_
  refine US.nil (UQ.then (S.sq (S.rg ?_)))
  refine S.qu (Z.mv U) ?_
  refine S.qu (Z.mv U) ?_
  refine S.qu (Z.mv U) ?_
  refine S.qu (Z.mv U) ?_
  refine S.dd (D.co (.cons 0 U .nil) U U (λG hD=>hf G hD) ?_)
  rintro _ _ ⟨rfl,rfl⟩
  refine S.qu (Z.call U U (λH=>ht H)) ?_
  refine S.qu (Z.as U) ?_
  refine US.nil (UQ.then (S.sq (S.rg ?_)))
  refine S.qu (Z.mv U) ?_
  refine S.qu (Z.mv U) ?_
  refine S.qu (Z.nN U) ?_
  refine S.qu (Z.fa iC U) ?_
  refine S.qu (Z.di 0 oo U U U) ?_
  refine S.qu (Z.mv U) ?_
  refine S.qu (Z.on (Z.mv U)) ?_
  refine S.qu (Z.on (Z.mv U)) ?_
  refine S.qu (Z.on (Z.call U U (λH=>hm H))) ?_
  refine S.qu (Z.pick U U) ?_
  refine S.qu (Z.nN U) ?_
  refine S.qu (Z.fa iC U) ?_
  refine S.s (D.st 0 oo U U U U U U U U (λ_=>?_))
  refine US.nil (UQ.then (S.sq (S.rg ?_)))
  refine S.qu (Z.mv U) ?_
  refine S.qu (Z.as U) ?_
  refine US.nil (UQ.then (UW.ret ?_))
  exact bN [_] (λ_=>ak U U) (.refl _) λhd=>⟨_,hd,rfl,rfl,rfl⟩
theorem FN(p:Nat)(v:V)(hv:Fits v)(ok:Bool)(key:ByteArray)(kind:Int)(tf mf:Nat)(tv:Int)(mb:Bool)(ht:∀H,au Tryz.prog tf [.agg (aD (aI v key).1)] H (bz H (.v (.int .i64 tv))))(hm:∀H,au Tryz.prog mf [.v (.int .i64 tv)] H (bz H (.v (.bool mb))))(G:Hp)(hd:aM G (nI p v ok)):au Tryz.prog 57 [.ptr p 0,.v (.string key),.v (.int .i64 kind),.gN tf [],.gN mf []] (aC G (nI p v ok)) (λu H'=>∃news,aM G news/\H'=aC G news/\(u=.v (.int .i64 tv)/\news=nI p v (ok&&(qG v key kind&&mb)))):=by
 have hf:=tZ p v hv ok key kind
 have hb:(ok&&(qG v key kind&&mb))=((ok&&qG v key kind)&&mb):=(Bool.and_assoc ..).symm
 rw[hb]
 generalize (ok&&qG v key kind)=o2 at*
 generalize (aI v key).1=y at*
 obtain⟨k,n,t,ks,vs⟩:=v
 unfold nI at hd hf⊢
 cases o2 with
 |false=>
  refine aF (n:=31) (H0:=G) (I:=_) Tryz.func57 (by kernel_rfl) U (by rw[Tryz.ntmps57];rfl) hd ?_
  refine S.sq (S.rg ?_)
  refine S.qu (Z.as U) ?_
  refine US.nil (UQ.then (S.sq (S.rg ?_)))
  refine S.qu (Z.mv U) ?_
  refine S.qu (Z.mv U) ?_
  refine S.qu (Z.mv U) ?_
  refine S.qu (Z.mv U) ?_
  refine S.dd (D.co (.cons 0 U .nil) U U (λG hD=>hf G hD) ?_)
  rintro _ _ ⟨rfl,rfl⟩
  refine S.qu (Z.call U U (λH=>ht H)) ?_
  refine S.qu (Z.as U) ?_
  refine US.nil (UQ.then (S.sq (S.rg ?_)))
  refine S.qu (Z.mv U) ?_
  refine S.qu (Z.mv U) ?_
  refine S.qu (Z.nN U) ?_
  refine S.qu (Z.fa iC U) ?_
  refine S.qu (Z.di 0 oo U U U) ?_
  refine S.qu (Z.mv U) ?_
  refine S.qu (Z.of) ?_
  refine S.qu (Z.of) ?_
  refine S.qu (Z.of) ?_
  refine S.qu (Z.pick U U) ?_
  refine S.qu (Z.nN U) ?_
  refine S.qu (Z.fa iC U) ?_
  refine S.s (D.st 0 oo U U U U U U U U (λ_=>?_))
  refine US.nil (UQ.then (S.sq (S.rg ?_)))
  refine S.qu (Z.mv U) ?_
  refine S.qu (Z.as U) ?_
  refine US.nil (UQ.then (UW.ret ?_))
  exact bN [_] (λ_=>ak U U) (.refl _) λhd=>⟨_,hd,rfl,rfl,rfl⟩
 |true=>
  refine aF (n:=31) (H0:=G) (I:=_) Tryz.func57 (by kernel_rfl) U (by rw[Tryz.ntmps57];rfl) hd ?_
  refine S.sq (S.rg ?_)
  refine S.qu (Z.as U) ?_
  refine US.nil (UQ.then (S.sq (S.rg ?_)))
  refine S.qu (Z.mv U) ?_
  refine S.qu (Z.mv U) ?_
  refine S.qu (Z.mv U) ?_
  refine S.qu (Z.mv U) ?_
  refine S.dd (D.co (.cons 0 U .nil) U U (λG hD=>hf G hD) ?_)
  rintro _ _ ⟨rfl,rfl⟩
  refine S.qu (Z.call U U (λH=>ht H)) ?_
  refine S.qu (Z.as U) ?_
  refine US.nil (UQ.then (S.sq (S.rg ?_)))
  refine S.qu (Z.mv U) ?_
  refine S.qu (Z.mv U) ?_
  refine S.qu (Z.nN U) ?_
  refine S.qu (Z.fa iC U) ?_
  refine S.qu (Z.di 0 oo U U U) ?_
  refine S.qu (Z.mv U) ?_
  refine S.qu (Z.on (Z.mv U)) ?_
  refine S.qu (Z.on (Z.mv U)) ?_
  refine S.qu (Z.on (Z.call U U (λH=>hm H))) ?_
  refine S.qu (Z.pick U U) ?_
  refine S.qu (Z.nN U) ?_
  refine S.qu (Z.fa iC U) ?_
  refine S.s (D.st 0 oo U U U U U U U U (λ_=>?_))
  refine US.nil (UQ.then (S.sq (S.rg ?_)))
  refine S.qu (Z.mv U) ?_
  refine S.qu (Z.as U) ?_
  refine US.nil (UQ.then (UW.ret ?_))
  exact bN [_] (λ_=>ak U U) (.refl _) λhd=>⟨_,hd,rfl,rfl,rfl⟩
theorem FO(p:Nat)(v:V)(hv:Fits v)(ok:Bool)(key:ByteArray)(kind:Int)(tf mf:Nat)(tv:V)(mb:Bool)(ht:∀H,au Tryz.prog tf [.agg (aD (aI v key).1)] H (bz H (.agg (aD tv))))(hm:∀H,au Tryz.prog mf [.agg (aD tv)] H (bz H (.v (.bool mb))))(G:Hp)(hd:aM G (nI p v ok)):au Tryz.prog 60 [.ptr p 0,.v (.string key),.v (.int .i64 kind),.gN tf [],.gN mf []] (aC G (nI p v ok)) (λu H'=>∃news,aM G news/\H'=aC G news/\(u=.agg (aD tv)/\news=nI p v (ok&&(qG v key kind&&mb)))):=by
 have hf:=tZ p v hv ok key kind
 have hb:(ok&&(qG v key kind&&mb))=((ok&&qG v key kind)&&mb):=(Bool.and_assoc ..).symm
 rw[hb]
 generalize (ok&&qG v key kind)=o2 at*
 generalize (aI v key).1=y at*
 obtain⟨tk,tn,tt,tks,tvs⟩:=tv
 obtain⟨k,n,t,ks,vs⟩:=v
 unfold nI at hd hf⊢
 cases o2 with
 |false=>
  refine aF (n:=31) (H0:=G) (I:=_) Tryz.func60 (by kernel_rfl) U (by rw[Tryz.ntmps60];rfl) hd ?_
  refine S.sq (S.rg ?_)
  refine S.dd (D.al z26 U U U (λp10=>?_))
  refine US.nil (UQ.then (S.sq (S.rg ?_)))
  refine S.qu (Z.mv U) ?_
  refine S.qu (Z.mv U) ?_
  refine S.qu (Z.mv U) ?_
  refine S.qu (Z.mv U) ?_
  refine S.dd (D.co (.cons 1 U .nil) U U (λG hD=>hf G hD) ?_)
  rintro _ _ ⟨rfl,rfl⟩
  refine S.qu (Z.call U U (λH=>ht H)) ?_
  refine S.dd (D.al z26 U U U (λp11=>?_))
  refine S.s (D.st 0 av U U U U U U U U (λ_=>?_))
  refine US.nil (UQ.then (S.sq (S.rg ?_)))
  refine S.qu (Z.mv U) ?_
  refine S.qu (Z.mv U) ?_
  refine S.qu (Z.nN U) ?_
  refine S.qu (Z.fa iC U) ?_
  refine S.qu (Z.di 1 oo U U U) ?_
  refine S.qu (Z.mv U) ?_
  refine S.qu (Z.of) ?_
  refine S.qu (Z.of) ?_
  refine S.qu (Z.of) ?_
  refine S.qu (Z.pick U U) ?_
  refine S.qu (Z.nN U) ?_
  refine S.qu (Z.fa iC U) ?_
  refine S.s (D.st 1 oo U U U U U U U U (λ_=>?_))
  refine US.nil (UQ.then (S.sq (S.rg ?_)))
  refine S.qu (Z.dA 0 av U U U) ?_
  refine S.s (D.st 2 av U U U U U U U U (λ_=>?_))
  refine US.nil (UQ.then (UW.ret ?_))
  exact bN [_] (λhd=>aU (k:=2) hd U U U fV fZ) (.cons _ (.cons_cons _ (List.nil_sublist _))) λhd=>⟨_,hd,rfl,rfl,rfl⟩
 |true=>
  refine aF (n:=31) (H0:=G) (I:=_) Tryz.func60 (by kernel_rfl) U (by rw[Tryz.ntmps60];rfl) hd ?_
  refine S.sq (S.rg ?_)
  refine S.dd (D.al z26 U U U (λp10=>?_))
  refine US.nil (UQ.then (S.sq (S.rg ?_)))
  refine S.qu (Z.mv U) ?_
  refine S.qu (Z.mv U) ?_
  refine S.qu (Z.mv U) ?_
  refine S.qu (Z.mv U) ?_
  refine S.dd (D.co (.cons 1 U .nil) U U (λG hD=>hf G hD) ?_)
  rintro _ _ ⟨rfl,rfl⟩
  refine S.qu (Z.call U U (λH=>ht H)) ?_
  refine S.dd (D.al z26 U U U (λp11=>?_))
  refine S.s (D.st 0 av U U U U U U U U (λ_=>?_))
  refine US.nil (UQ.then (S.sq (S.rg ?_)))
  refine S.qu (Z.mv U) ?_
  refine S.qu (Z.mv U) ?_
  refine S.qu (Z.nN U) ?_
  refine S.qu (Z.fa iC U) ?_
  refine S.qu (Z.di 1 oo U U U) ?_
  refine S.qu (Z.mv U) ?_
  refine S.qu (Z.on (Z.mv U)) ?_
  refine S.qu (Z.on (Z.dA 0 av U U U)) ?_
  refine S.qu (Z.on (Z.call U U (λH=>hm H))) ?_
  refine S.qu (Z.pick U U) ?_
  refine S.qu (Z.nN U) ?_
  refine S.qu (Z.fa iC U) ?_
  refine S.s (D.st 1 oo U U U U U U U U (λ_=>?_))
  refine US.nil (UQ.then (S.sq (S.rg ?_)))
  refine S.qu (Z.dA 0 av U U U) ?_
  refine S.s (D.st 2 av U U U U U U U U (λ_=>?_))
  refine US.nil (UQ.then (UW.ret ?_))
  exact bN [_] (λhd=>aU (k:=2) hd U U U fV fZ) (.cons _ (.cons_cons _ (List.nil_sublist _))) λhd=>⟨_,hd,rfl,rfl,rfl⟩
end Go.Proofs.YtonpfomjoiaacaaGreatDoor
end
