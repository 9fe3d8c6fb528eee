/- A part of the proof. -/
import Derived.Test.YtonpfomjoiaacaaGreatDoorMw26
set_option maxRecDepth 100000
set_option maxHeartbeats 4000000
set_option linter.unusedSectionVars false
set_option linter.unusedVariables false
set_option linter.unusedSimpArgs false
section
namespace Go.iG
open Go Go.RowKit
theorem S.cut2{P:Program}{n:Nat}{Q:sN->Sl->Hp->Prop}{H0:Hp}{l:List (Nat×AV)}{I:List (Nat×Ob)}{c c2:Code}{α β:Type}(a0:α)(b0:β)(L:α->β->List (Nat×AV))(O:α->β->List (Nat×Ob))(hx:UW P n (ng (Vb H0 (λs:α×β=>L s.1 s.2) (λs=>O s.1 s.2) (λs=>s.1=a0/\s.2=b0)) Q) H0 c l I)(hy:UW P n Q H0 c2 (L a0 b0) (O a0 b0)):UW P n Q H0 (.seq c c2) l I:=
 S.E5 _ _ _ hx λa h=>by obtain⟨a1,a2⟩:=a;obtain⟨h1,h2⟩:=h;cases h1;cases h2;exact hy
end Go.iG
end
section
namespace Go.Proofs.YtonpfomjoiaacaaGreatDoor
open Go Go.iG Go.RowKit
theorem Qs{b k:Int}(h:0<=b):0<=b.tmod k:=Int.tmod_nonneg _ h
theorem Qt{b k:Int}(hk:0<k):b.tmod k<k:=Int.tmod_lt_of_pos _ hk
theorem LA{c:List Int}(hc:wy c){k:Nat}(h:k<c.length):(c.map wY)[k]? =some (wY (c.getD k 0))/\0<=c.getD k 0/\c.getD k 0<256:=by
 rw[getD_at h];exact⟨RV c k h,hc _ (List.getElem_mem h)⟩
theorem wy.cut{c:List Int}(hc:wy c)(m m':Nat):wy ((c.take m').drop m):=λb hb=>hc b (List.mem_of_mem_take (List.mem_of_mem_drop hb))
theorem R5(c:List Int)(m m':Nat):AV.sl ((List.take m' (c.map wY)).drop m)=yM ((c.take m').drop m):=by
 unfold yM;rw[List.map_drop,List.map_take]
theorem V3(l:List V)(k:Nat):((List.drop (0+k) (bu l)).take (l.length-k))=bu (l.drop k):=by
 rw[Nat.zero_add,List.take_of_length_le (by rw[List.length_drop,aS];exact Nat.le_refl _),eX,eX,List.map_drop]
theorem Bi(b1:Int)(q:Nat)(h:0<=b1):((D8 b1 q:Nat):Int)=(b1.tdiv 4+3*(q:Int)).tmod 8:=by
 have:=Int.tdiv_nonneg h (by decide:(0:Int)<=4)
 unfold D8;exact Int.toNat_of_nonneg (Qs (by omega))
theorem GD(b1:Int)(q:Nat)(h:0<=b1):(zT.map encS)[D8 b1 q]? =some (encS (zT.getD (D8 b1 q) ⟨#[]⟩)):=by
 have e:=Bi b1 q h
 have h2:=Qt (b:=b1.tdiv 4+3*(q:Int)) (k:=8) (by decide)
 have h3:D8 b1 q<zT.length:=by show _<8;omega
 rw[getD_at h3];exact eY _ _ h3
theorem Eo(l:List V)(q:Nat)(h:q<l.length):(bu l)[q]? =some (aC (l.getD q zeroV)):=by
 rw[getD_at h];exact gH l q h
theorem V4(c:List Int)(hc:wy c)(H:Hp):au Tryz.prog 117 [yM c] H (bB H (.agg (aC (valOf c)))):=by
 have yE:(c.map wY).length=c.length:=List.length_map ..
 refine aF (n:=150) (H0:=H) (I:=[]) Tryz.func117 (by kernel_rfl) U (by rw[Tryz.ntmps117];rfl) .nil<|?_
 refine Q.rg<|S.dd<|D.al z26 U U U λp2=>Q.nt<|Q.rg<|Q.as U<|US.kZ 3 26 5 (by decide) U λid=>Q.nt<|Q.rg<|S.qu (Z.bl dQ U U (bz U))<|Q.as U<|Q.nt<|S.sq<|Q.rg<|Q.as U<|Q.nt<|UW.block<|S.loop (λs:Nat×Nat=>[(5,.v (.int .i64 ((2*s.1:Nat):Int))),(3,.own s.2 0 (oO c s.1).length 5),(4,strs zT),(0,yM c),(2,.ptr p2 0)]) (λs=>[(s.2,.row 26 5 (bu (oO c s.1))),(p2,.box 26 (aC zeroV))]) (λs=>s.1<=c.length/2/\s.1<=30) (λs=>30-s.1) (0,id) ⟨Nat.zero_le _,Nat.zero_le _⟩ ⟨rfl,rfl,rfl,rfl,rfl,trivial⟩ (.refl _)<|?_
 rintro⟨n,id⟩ ⟨hn,hn30⟩
 simp only at hn hn30
 simp only
 have hvl:=aS (oO c n)
 by_cases hlt:2*n+1<c.length
 ·by_cases hl30:n<30
  ·obtain⟨hg0,hb00,hb01⟩:=LA hc (by omega:2*n<c.length)
   obtain⟨hg1,LB,hb11⟩:=LA hc hlt
   obtain⟨hL1,hL2⟩:=En c n (by omega)
   have hstep:oO c (n+1)=NL c (2*n) (oO c n):=rfl
   unfold NL at hstep
   have hm:=(NM (c.getD (2*n) 0) (c.getD (2*n+1) 0) (textOf ((c.take (min c.length (2*n+3))).drop (2*n))) (oO c n) (by omega) hL2).2
   generalize c.getD (2*n) 0=b0 at*
   generalize c.getD (2*n+1) 0=b1 at*
   generalize oO c n=l at*
   have hr0:=Qs (k:=4) LB
   have hr1:=Qt (b:=b1) (k:=4) (by decide)
   have hr2:=Qs (k:=2) LB
   have hr3:=Qt (b:=b1) (k:=2) (by decide)
   have hd4:b1.tdiv 4=b1/4:=Int.tdiv_eq_ediv_of_nonneg LB
   have hkl:(dG b1 l).length<=l.length:=by unfold dG;rw[List.length_drop];omega
   have Xo:∀x∈dG b1 l,Fits x:=λx hx=>hL2 x (List.mem_of_mem_drop hx)
   have htk:mQ b1 l<=l.length:=Nat.min_le_right _ _
   generalize hsw:Dz b0 b1 (textOf ((c.take (min c.length (2*n+3))).drop (2*n))) l=sw at*
   obtain⟨m,x⟩:=sw
   simp only at hstep hm
   have hsl:(oO c (n+1)).length=m+1:=by rw[hstep,List.length_append,List.length_take,List.length_singleton];omega
   have hse:(bu l).take m++[aC x]=bu (oO c (n+1)):=by rw[hstep,eX,eX];simp[List.map_take]
   focus
    refine S.sq<|Q.rg<|Q.mv U<|S.qu (Z.add U U (IntWalk.i64_in _ (by omega)))<|Q.mv U<|S.qu (Z.fM cK U)<|Q.bi U U U<|Q.mv U<|?_
    refine S.tD 16 (λhc16=>?_) (λhc16=>?_)
    rotate_left
    omega
    refine Q.on (Z.mv U)<|Q.on (Z.bi U U U)<|Q.pk U U<|Q.nt<|S.cT U (decide_eq_true (by omega))<|UW.skip<|UQ.then<|S.sq<|UW.block<|Q.rg<|Q.mv U<|Q.mv U<|S.qu (Z.add (r:=((2*n+1:Nat):Int)) U U (IntWalk.i64_in _ (by omega)))<|S.qu (Z.ia cK U U (by omega) (by assumption) (by rfl))<|?_
    refine S.qu (Z.fO oW U)<|Q.bi U U U<|S.qu (Z.cv Tryz.underlying3 U (IntWalk.i64_in _ (by omega)) (by rw[Tryz.underlying5];rfl))<|?_
    refine Q.mv U<|S.qu (Z.OX bP U)<|?_
    refine S.qu (Z.eq (u':=.v (.int .i64 ((mQ b1 l:Nat):Int))) (Z.min U U) (by unfold mQ;congr 2;split<;>omega)) ?_
    refine Q.as U<|Q.nt<|Q.rg<|Q.as U<|Q.nt<|Q.rg<|Q.mv U<|Q.mv U<|Q.mv U<|S.qu (Z.OX bP U)<|Q.mv U<|S.qu (Z.eq (u':=.v (.int .i64 ((l.length-mQ b1 l:Nat):Int))) (Z.sub U U (IntWalk.i64_in _ (by omega))) (by congr 2;omega))<|?_
    refine S.qu (Z.Ee bP U (.lo U) (by omega) (by omega))<|S.dd<|D.apn jw U U (.own (k:=0) (rs:=bu (dG b1 l)) U (by omega) (V3 l (l.length-mQ b1 l))) (by have e:=aS (dG b1 l);omega) λp39=>?_
    refine US.fV 39 0 (rs:=bu (dG b1 l)) U U (Nat.le_of_eq (Nat.zero_add _)) (by rw[List.drop_zero,List.take_length])<|?_
    refine Q.as U<|Q.nt<|Q.rg<|S.qu (Z.bd [] gU U U U U U U)<|S.dd<|D.al z26 U U U λp8=>S.s<|D.st 0 av U U U U U U U U λ_=>Q.nt<|?_
    refine S.cut2 m (aC x) (λ(m:Nat) (x:List AV)=>[(3,.own id 0 m 5),(8,.ptr p8 0),(5,.v (.int .i64 ((2*n:Nat):Int))),(4,strs zT),(0,yM c),(2,.ptr p2 0)]) (λm x=>[(p8,.box 26 x),(id,.row 26 5 (bu l)),(p2,.box 26 (aC zeroV))]) ?_ ?_
    refine Q.rg<|Q.mv U<|Q.mv U<|S.qu (Z.ia cK U U (by omega) (by assumption) (by rfl))<|?_
    refine S.qu (Z.fO oW U)<|Q.bi U U U<|Q.nt<|UW.block<|Q.rg<|Q.bi U U U<|Q.as U<|Q.nt<|?_
    refine S.cE U (λhc46=>?_) (λhc46=>?_)
    refine S.rg<|Q.mv U<|Q.mv U<|S.qu (Z.add (r:=((2*n+1:Nat):Int)) U U (IntWalk.i64_in _ (by omega)))<|S.qu (Z.ia cK U U (by omega) (by assumption) (by rfl))<|?_
    refine S.qu (Z.fO oW U)<|Q.bi U U U<|S.qu (Z.cv Tryz.underlying2 U (IntWalk.i64_in _ (by omega)) (by rw[Tryz.underlying5];rfl))<|?_
    refine S.qu (Z.bd [0,1] gU U U U U U U)<|S.s<|D.st 0 av U U U U U U U U λ_=>US.nil<|UQ.aB<|?_
    refine S.iD (_,_) ⟨rfl,rfl,rfl,rfl,rfl,rfl,trivial⟩ (.refl _) (by unfold Dz at hsw;(repeat' split at hsw);all_goals first|omega|(cases hsw;exact⟨by rfl,by rfl⟩))
    refine S.sq<|Q.rg<|Q.bi U U U<|Q.as U<|Q.nt<|?_
    refine S.cE U (λQu=>?_) (λQu=>?_)
    refine UW.skip<|UQ.then<|S.cT U (jP (by omega))<|S.rg<|Q.mv U<|Q.mv U<|S.qu (Z.add (r:=((2*n+1:Nat):Int)) U U (IntWalk.i64_in _ (by omega)))<|S.qu (Z.ia cK U U (by omega) (by assumption) (by rfl))<|?_
    refine S.qu (Z.fO oW U)<|S.qu (Z.cv Tryz.underlying2 U (IntWalk.i64_in _ (by omega)) (by rw[Tryz.underlying5];rfl))<|?_
    refine S.qu (Z.sub U U (IntWalk.i64_in _ (by omega)))<|S.qu (Z.bd [0,1] gU U U U U U U)<|S.s<|D.st 0 av U U U U U U U U λ_=>US.nil<|UQ.aB<|?_
    refine S.iD (_,_) ⟨rfl,rfl,rfl,rfl,rfl,rfl,trivial⟩ (.refl _) (by unfold Dz at hsw;(repeat' split at hsw);all_goals first|omega|(cases hsw;exact⟨by rfl,by rfl⟩))
    refine Q.rg<|Q.bi U U U<|Q.as U<|Q.nt<|?_
    refine S.cE U (λQu=>?_) (λQu=>?_)
    refine UW.skip<|UQ.then<|S.cT U (jP (by omega))<|S.rg<|Q.mv U<|Q.mv U<|S.qu (Z.add (r:=((2*n+1:Nat):Int)) U U (IntWalk.i64_in _ (by omega)))<|S.qu (Z.ia cK U U (by omega) (by assumption) (by rfl))<|?_
    refine S.qu (Z.fO oW U)<|S.qu (Z.cv Tryz.underlying2 U (IntWalk.i64_in _ (by omega)) (by rw[Tryz.underlying5];rfl))<|?_
    refine S.qu (Z.sub U U (IntWalk.i64_in _ (by omega)))<|S.qu (Z.bd [0,1] gU U U U U U U)<|S.s<|D.st 0 av U U U U U U U U λ_=>US.nil<|UQ.aB<|?_
    refine S.iD (_,_) ⟨rfl,rfl,rfl,rfl,rfl,rfl,trivial⟩ (.refl _) (by unfold Dz at hsw;(repeat' split at hsw);all_goals first|omega|(cases hsw;exact⟨by rfl,by rfl⟩))
    refine S.rg<|Q.bi U U U<|Q.as U<|Q.nt<|?_
    refine S.cE U (λQu=>?_) (λQu=>?_)
    refine S.rg<|Q.mv U<|Q.mv U<|S.qu (Z.add (r:=((2*n+1:Nat):Int)) U U (IntWalk.i64_in _ (by omega)))<|S.qu (Z.ia cK U U (by omega) (by assumption) (by rfl))<|?_
    refine S.qu (Z.fO oW U)<|S.qu (Z.cv Tryz.underlying2 U (IntWalk.i64_in _ (by omega)) (by rw[Tryz.underlying5];rfl))<|?_
    refine S.qu (Z.sub U U (IntWalk.i64_in _ (by omega)))<|S.qu (Z.bd [0,1] gU U U U U U U)<|S.s<|D.st 0 av U U U U U U U U λ_=>US.nil<|UQ.aB<|?_
    refine S.iD (_,_) ⟨rfl,rfl,rfl,rfl,rfl,rfl,trivial⟩ (.refl _) (by unfold Dz at hsw;(repeat' split at hsw);all_goals first|omega|(cases hsw;exact⟨by rfl,by rfl⟩))
    refine Q.rg<|Q.bi U U U<|Q.as U<|Q.nt<|?_
    refine S.cE U (λGG=>?_) (λGG=>?_)
    refine S.rg<|Q.mv U<|Q.mv U<|S.qu (Z.add (r:=((2*n+1:Nat):Int)) U U (IntWalk.i64_in _ (by omega)))<|S.qu (Z.ia cK U U (by omega) (by assumption) (by rfl))<|?_
    refine S.qu (Z.fO oW U)<|Q.bi U U U<|S.qu (Z.cv Tryz.underlying2 U (IntWalk.i64_in _ (by omega)) (by rw[Tryz.underlying5];rfl))<|?_
    refine S.qu (Z.sub U U (IntWalk.i64_in _ (by omega)))<|S.qu (Z.bd [0,1] gU U U U U U U)<|S.s<|D.st 0 av U U U U U U U U λ_=>US.nil<|UQ.aB<|?_
    refine S.iD (_,_) ⟨rfl,rfl,rfl,rfl,rfl,rfl,trivial⟩ (.refl _) (by unfold Dz at hsw;(repeat' split at hsw);all_goals first|omega|(cases hsw;exact⟨by rfl,by rfl⟩))
    refine S.sq<|Q.rg<|Q.bi U U U<|Q.as U<|Q.nt<|?_
    refine S.cE U (λV5=>?_) (λV5=>?_)
    refine UW.skip<|UQ.then<|S.cT U (jP (by omega))<|Q.rg<|Q.mv U<|Q.mv U<|Q.mv U<|S.qu (Z.fM cK U)<|Q.mv U<|S.qu (Z.add (r:=((2*n+3:Nat):Int)) U U (IntWalk.i64_in _ (by omega)))<|?_
    refine S.qu (Z.eq (u':=.v (.int .i64 ((min c.length (2*n+3):Nat):Int))) (Z.min U U) (by rw[yE];congr 2;split<;>omega)) ?_
    refine S.qu (Z.eq (u':=yM ((c.take (min c.length (2*n+3))).drop (2*n))) (Z.Xl cK U (K3 _) (.both U U) (by omega) (by omega) U) (R5 _ _ _))<|S.qu (Z.call U U (λ_=>I6 _ (hc.cut _ _) _))<|S.qu (Z.bd [0,2] gU U U U U U U)<|S.s<|D.st 0 av U U U U U U U U λ_=>Q.nt<|Q.rg<|Q.fa kY U<|Q.lc 0 dW U U U<|S.qu (Z.call U U (λ_=>jL _ (Nat.le_trans (textOf_size _) (by decide)) _))<|Q.bi U U U<|Q.nt<|?_
    refine S.cD U (λhc95=>?_) (λhc95=>?_)
    refine S.rg<|Q.fa kY U<|S.s<|D.st 0 dW U U U U U U U U λ_=>US.nil<|UQ.aB<|?_
    refine S.iD (_,_) ⟨rfl,rfl,rfl,rfl,rfl,rfl,trivial⟩ (.refl _) (by unfold Dz at hsw;(repeat' split at hsw);all_goals first|omega|(cases hsw;exact⟨by rfl,by rfl⟩))
    refine UW.skip<|UQ.aB<|?_
    refine S.iD (_,_) ⟨rfl,rfl,rfl,rfl,rfl,rfl,trivial⟩ (.refl _) (by unfold Dz at hsw;(repeat' split at hsw);all_goals first|omega|(cases hsw;exact⟨by rfl,by rfl⟩))
    refine S.rg<|Q.bi U U U<|Q.as U<|Q.nt<|?_
    refine S.cE U (λV5=>?_) (λV5=>?_)
    refine Q.rg<|Q.mv U<|Q.mv U<|Q.mv U<|S.qu (Z.fM cK U)<|Q.mv U<|S.qu (Z.add (r:=((2*n+3:Nat):Int)) U U (IntWalk.i64_in _ (by omega)))<|?_
    refine S.qu (Z.eq (u':=.v (.int .i64 ((min c.length (2*n+3):Nat):Int))) (Z.min U U) (by rw[yE];congr 2;split<;>omega)) ?_
    refine S.qu (Z.eq (u':=yM ((c.take (min c.length (2*n+3))).drop (2*n))) (Z.Xl cK U (K3 _) (.both U U) (by omega) (by omega) U) (R5 _ _ _))<|S.qu (Z.call U U (λ_=>I6 _ (hc.cut _ _) _))<|S.qu (Z.bd [0,2] gU U U U U U U)<|S.s<|D.st 0 av U U U U U U U U λ_=>Q.nt<|Q.rg<|Q.fa kY U<|Q.lc 0 dW U U U<|S.qu (Z.call U U (λ_=>jL _ (Nat.le_trans (textOf_size _) (by decide)) _))<|Q.bi U U U<|Q.nt<|?_
    refine S.cD U (λhc95=>?_) (λhc95=>?_)
    refine S.rg<|Q.fa kY U<|S.s<|D.st 0 dW U U U U U U U U λ_=>US.nil<|UQ.aB<|?_
    refine S.iD (_,_) ⟨rfl,rfl,rfl,rfl,rfl,rfl,trivial⟩ (.refl _) (by unfold Dz at hsw;(repeat' split at hsw);all_goals first|omega|(cases hsw;exact⟨by rfl,by rfl⟩))
    refine UW.skip<|UQ.aB<|?_
    refine S.iD (_,_) ⟨rfl,rfl,rfl,rfl,rfl,rfl,trivial⟩ (.refl _) (by unfold Dz at hsw;(repeat' split at hsw);all_goals first|omega|(cases hsw;exact⟨by rfl,by rfl⟩))
    refine Q.rg<|Q.bi U U U<|Q.as U<|Q.nt<|?_
    refine S.cE U (λhc97=>?_) (λhc97=>?_)
    refine Q.rg<|Q.mv U<|Q.mv U<|S.qu (Z.OX bP U)<|Q.mv U<|S.qu (Z.eq (u':=.v (.int .i64 ((l.length-mQ b1 l:Nat):Int))) (Z.sub U U (IntWalk.i64_in _ (by omega))) (by congr 2;omega))<|?_
    refine S.qu (Z.Ee bP U (.hi U) (by omega) (by omega))<|Q.as U<|Q.nt<|S.rg<|Q.mv U<|S.qu (Z.bd [0,4] gU U U U U U U)<|S.s<|D.st 0 av U U U U U U U U λ_=>US.nil<|UQ.aB<|?_
    refine S.iD (_,_) ⟨rfl,rfl,rfl,rfl,rfl,rfl,trivial⟩ (.refl _) (by unfold Dz at hsw;(repeat' split at hsw);all_goals first|omega|(cases hsw;exact⟨by rfl,by rfl⟩))
    refine S.sq<|Q.rg<|Q.bi U U U<|Q.as U<|Q.nt<|?_
    refine S.cE U (λNN=>?_) (λNN=>?_)
    refine UW.skip<|UQ.then<|S.cT U (jP (by omega))<|Q.rg<|Q.mv U<|Q.mv U<|S.qu (Z.OX bP U)<|Q.mv U<|S.qu (Z.eq (u':=.v (.int .i64 ((l.length-mQ b1 l:Nat):Int))) (Z.sub U U (IntWalk.i64_in _ (by omega))) (by congr 2;omega))<|?_
    refine S.qu (Z.Ee bP U (.hi U) (by omega) (by omega))<|Q.as U<|Q.nt<|Q.rg<|S.qu (Z.bd [0] gU U U U U U U)<|S.s<|D.st 0 av U U U U U U U U λ_=>Q.nt<|Q.rg<|Q.as U<|Q.nt<|UW.block<|?_
    rotate_left
    refine Q.rg<|Q.bi U U U<|Q.as U<|Q.nt<|?_
    refine S.cE U (λNN=>?_) (λNN=>?_)
    refine UW.skip<|UQ.then<|S.cT U (jP (by omega))<|Q.rg<|Q.mv U<|Q.mv U<|S.qu (Z.OX bP U)<|Q.mv U<|S.qu (Z.eq (u':=.v (.int .i64 ((l.length-mQ b1 l:Nat):Int))) (Z.sub U U (IntWalk.i64_in _ (by omega))) (by congr 2;omega))<|?_
    refine S.qu (Z.Ee bP U (.hi U) (by omega) (by omega))<|Q.as U<|Q.nt<|Q.rg<|S.qu (Z.bd [0] gU U U U U U U)<|S.s<|D.st 0 av U U U U U U U U λ_=>Q.nt<|Q.rg<|Q.as U<|Q.nt<|UW.block<|?_
    rotate_left
    refine S.rg<|Q.bi U U U<|Q.as U<|Q.nt<|?_
    refine S.cE U (λNN=>?_) (λNN=>?_)
    refine Q.rg<|Q.mv U<|Q.mv U<|S.qu (Z.OX bP U)<|Q.mv U<|S.qu (Z.eq (u':=.v (.int .i64 ((l.length-mQ b1 l:Nat):Int))) (Z.sub U U (IntWalk.i64_in _ (by omega))) (by congr 2;omega))<|?_
    refine S.qu (Z.Ee bP U (.hi U) (by omega) (by omega))<|Q.as U<|Q.nt<|Q.rg<|S.qu (Z.bd [0] gU U U U U U U)<|S.s<|D.st 0 av U U U U U U U U λ_=>Q.nt<|Q.rg<|Q.as U<|Q.nt<|UW.block<|?_
    rotate_left
    refine UW.skip<|UQ.aB<|?_
    refine S.iD (_,_) ⟨rfl,rfl,rfl,rfl,rfl,rfl,trivial⟩ (.refl _) (by unfold Dz at hsw;(repeat' split at hsw);all_goals first|omega|(cases hsw;exact⟨by rfl,by rfl⟩))
    refine S.rg<|Q.mv U<|S.qu (Z.bW 0 av U U (Y _))<|S.qu (Z.bl jw U U (by intro cs h;cases List.mem_singleton.1 h;exact⟨by exact az _,by exact Y _⟩))<|?_
    refine S.dd<|D.ap 1 jw U U (by omega) U (.sl (by intro cs h;cases List.mem_singleton.1 h;exact Y _)) (by(simp;omega)) hse λp147=>?_
    refine S.eq 147 (u:=.own p147 0 (m+1) 5) (u':=.own p147 0 (oO c (n+1)).length 5) (by rw[hsl])<|?_
    refine Q.as U<|US.nil<|UQ.aB<|UQ.then<|S.rg<|Q.mv U<|S.qu (Z.add (r:=((2*(n+1):Nat):Int)) U U (IntWalk.i64_in _ (by omega)))<|Q.as U<|US.nil<|?_
    refine S.back (_,_) ⟨rfl,rfl,rfl,rfl,rfl,trivial⟩ (by repeat (first|exact List.Sublist.refl _|refine .cons_cons _ ?_|refine .cons _ ?_)) (by omega) (by omega)
   ·refine S.loop (λq:Nat=>[(9,.v (.int .i64 (q:Int))),(7,.sl (bu (dG b1 l))),(8,.ptr p8 0),(3,.own id 0 (l.length-mQ b1 l-0) 5),(5,.v (.int .i64 ((2*n:Nat):Int))),(4,strs zT),(0,yM c),(2,.ptr p2 0)]) (λq=>[(p8,.box 26 (aC (oN b1 (dG b1 l) q))),(id,.row 26 5 (bu l)),(p2,.box 26 (aC zeroV))]) (λq=>q<=(dG b1 l).length) (λq=>(dG b1 l).length-q) 0 (Nat.zero_le _) ⟨rfl,rfl,rfl,rfl,rfl,rfl,rfl,rfl,trivial⟩ (.refl _)<|?_
    rintro q hq
    have XI:=aS (dG b1 l)
    by_cases hql:q<(dG b1 l).length
    ·have hF:=yj b1 (dG b1 l) Xo q (by omega)
     have hKs:=(yh b1 (dG b1 l) Xo q).2.2.2.1
     have Ij:=GD b1 q LB
     have hki:=Bi b1 q LB
     have hgv:=Eo (dG b1 l) q hql
     refine S.sq<|Q.rg<|Q.mv U<|Q.mv U<|S.qu (Z.fM bP U)<|Q.bi U U U<|Q.nt<|S.cT U (decide_eq_true (by omega))<|UW.skip<|UQ.then<|S.sq<|UW.block<|?_
     refine' UW.bG (by kernel_rfl) [0,0,0,0,8,28,60,124,252,0,512,2044,4092,8190,16382,0,0,98304,229376,524287,1048575] [some 124,some 125,some 126,some 127,some 128,some 129,some 130,some 131,some 132,some 133,some 134,some 135,some 136,some 137,some 138,some 139,some 140,some 141,some 142,some 143,none] [some (124,_),some (125,_),some (126,_),some (127,_),some (128,_),some (129,_),some (130,_),some (131,_),some (132,_),some (133,_),some (134,_),some (135,_),some (136,_),some (137,_),some (138,_),some (139,_),some (140,_),some (141,_),some (142,_),some (143,_),none] [20] [0,6,14,18] U (by decide) (by decide) (M.held (by decide) U U ?jG (M.free (by decide) U U ?jH (M.free (by decide) U U ?jI (M.free (by decide) U U ?jJ (M.free (by decide) U U ?jK (M.free (by decide) U U ?kE (M.held (by decide) U U ?nK (M.free (by decide) U U ?zD (M.free (by decide) U U ?zF (M.free (by decide) U U ?zG (M.free (by decide) U U ?AY (M.free (by decide) U U ?Kn (M.free (by decide) U U ?Ko (M.free (by decide) U U ?Kq (M.held (by decide) U U ?Kr (M.free (by decide) U U ?Kt (M.free (by decide) U U ?Ku (M.free (by decide) U U ?Kv (M.held (by decide) U U ?Kw (M.free (by decide) U U ?Ky (M.skip M.nil))))))))))))))))))))) ?uH
     case jG=>exact Z.bW 0 av rfl rfl (Y _)
     case jH=>(intro _;exact Z.mv rfl)
     case jI=>(intro _;exact Z.mv rfl)
     case jJ=>(intro _;exact Z.mv rfl)
     case jK=>(intro _;exact Z.add (r:=((2*n+1:Nat):Int)) rfl rfl (IntWalk.i64_in _ (by omega)))
     case kE=>(intro _;exact Z.ia cK rfl rfl (by omega) hg1 rfl)
     case nK=>exact Z.fO oW rfl
     case zD=>(intro _;exact Z.eq (u':=.v (.int .u8 (b1.tdiv 4))) (Z.bi rfl rfl rfl) (by congr 2;exact IntWalk.u8_in _ (by omega)))
     case zF=>(intro _;exact Z.cv Tryz.underlying3 rfl (IntWalk.i64_in _ (by omega)) (by rw[Tryz.underlying5];rfl))
     case zG=>(intro _;exact Z.mv rfl)
     case AY=>(intro _;exact Z.mul rfl rfl (IntWalk.i64_in _ (by omega)))
     case Kn=>(intro _;exact Z.add rfl rfl (IntWalk.i64_in _ (by omega)))
     case Ko=>(intro _;exact Z.eq (u':=.v (.int .i64 ((D8 b1 q:Nat):Int))) (Z.bi rfl rfl rfl) (by rw[hki]))
     case Kq=>(intro _;exact Z.ia aZ rfl rfl (by omega) (by assumption) (by rfl))
     case Kr=>exact Z.fO dW rfl
     case Kt=>(intro _;exact Z.mv rfl)
     case Ku=>(intro _;exact Z.mv rfl)
     case Kv=>(intro _;exact Z.ia bP rfl rfl (by omega) (by assumption) (by exact Y _))
     case Kw=>exact Z.IG av rfl (Y _)
     case Ky=>(intro _;exact Z.eq (u':=.agg (aC (oN b1 (dG b1 l) (q+1)))) (Z.call rfl rfl (λ_=>jb _ hF hKs _ _ _)) rfl)
     refine CH.bX U U<|D.vW 0 av U U U U (by exact az _) (Y _) (Y _) U λ_=>?_
     refine CH.nil<|?_
     simp only[app,bS]
     refine UQ.aB<|UQ.then<|S.rg<|Q.mv U<|S.qu (Z.add (r:=((q+1:Nat):Int)) U U (IntWalk.i64_in _ (by omega)))<|Q.as U<|US.nil<|?_
     refine S.back _ ⟨rfl,rfl,rfl,rfl,rfl,rfl,rfl,rfl,trivial⟩ (.refl _) (by omega) (by omega)
    ·have hqe:q=(dG b1 l).length:=by omega
     refine S.sq<|Q.rg<|Q.mv U<|Q.mv U<|S.qu (Z.fM bP U)<|Q.bi U U U<|Q.nt<|S.cF U (decide_eq_false (by omega))<|UW.exit<|UQ.pass<|UQ.pass<|UQ.here<|UQ.aB<|?_
     refine S.iD (_,_) ⟨rfl,rfl,rfl,rfl,rfl,rfl,trivial⟩ (.refl _) (by unfold Dz at hsw;(repeat' split at hsw);all_goals first|omega|(cases hsw;exact⟨by rfl,by rw[hqe]⟩))
   ·refine S.loop (λq:Nat=>[(9,.v (.int .i64 (q:Int))),(7,.sl (bu (dG b1 l))),(8,.ptr p8 0),(3,.own id 0 (l.length-mQ b1 l-0) 5),(5,.v (.int .i64 ((2*n:Nat):Int))),(4,strs zT),(0,yM c),(2,.ptr p2 0)]) (λq=>[(p8,.box 26 (aC (oN b1 (dG b1 l) q))),(id,.row 26 5 (bu l)),(p2,.box 26 (aC zeroV))]) (λq=>q<=(dG b1 l).length) (λq=>(dG b1 l).length-q) 0 (Nat.zero_le _) ⟨rfl,rfl,rfl,rfl,rfl,rfl,rfl,rfl,trivial⟩ (.refl _)<|?_
    rintro q hq
    have XI:=aS (dG b1 l)
    by_cases hql:q<(dG b1 l).length
    ·have hF:=yj b1 (dG b1 l) Xo q (by omega)
     have hKs:=(yh b1 (dG b1 l) Xo q).2.2.2.1
     have Ij:=GD b1 q LB
     have hki:=Bi b1 q LB
     have hgv:=Eo (dG b1 l) q hql
     refine S.sq<|Q.rg<|Q.mv U<|Q.mv U<|S.qu (Z.fM bP U)<|Q.bi U U U<|Q.nt<|S.cT U (decide_eq_true (by omega))<|UW.skip<|UQ.then<|S.sq<|UW.block<|?_
     refine' UW.bG (by kernel_rfl) [0,0,0,0,8,28,60,124,252,0,512,2044,4092,8190,16382,0,0,98304,229376,524287,1048575] [some 124,some 125,some 126,some 127,some 128,some 129,some 130,some 131,some 132,some 133,some 134,some 135,some 136,some 137,some 138,some 139,some 140,some 141,some 142,some 143,none] [some (124,_),some (125,_),some (126,_),some (127,_),some (128,_),some (129,_),some (130,_),some (131,_),some (132,_),some (133,_),some (134,_),some (135,_),some (136,_),some (137,_),some (138,_),some (139,_),some (140,_),some (141,_),some (142,_),some (143,_),none] [20] [0,6,14,18] U (by decide) (by decide) (M.held (by decide) U U ?nA (M.free (by decide) U U ?nC (M.free (by decide) U U ?nD (M.free (by decide) U U ?nE (M.free (by decide) U U ?qC (M.free (by decide) U U ?qp (M.held (by decide) U U ?qw (M.free (by decide) U U ?qx (M.free (by decide) U U ?y8 (M.free (by decide) U U ?y9 (M.free (by decide) U U ?AZ (M.free (by decide) U U ?KO (M.free (by decide) U U ?KP (M.free (by decide) U U ?KQ (M.held (by decide) U U ?KR (M.free (by decide) U U ?KS (M.free (by decide) U U ?KT (M.free (by decide) U U ?KU (M.held (by decide) U U ?KV (M.free (by decide) U U ?KW (M.skip M.nil))))))))))))))))))))) ?Cf
     case nA=>exact Z.bW 0 av rfl rfl (Y _)
     case nC=>(intro _;exact Z.mv rfl)
     case nD=>(intro _;exact Z.mv rfl)
     case nE=>(intro _;exact Z.mv rfl)
     case qC=>(intro _;exact Z.add (r:=((2*n+1:Nat):Int)) rfl rfl (IntWalk.i64_in _ (by omega)))
     case qp=>(intro _;exact Z.ia cK rfl rfl (by omega) hg1 rfl)
     case qw=>exact Z.fO oW rfl
     case qx=>(intro _;exact Z.eq (u':=.v (.int .u8 (b1.tdiv 4))) (Z.bi rfl rfl rfl) (by congr 2;exact IntWalk.u8_in _ (by omega)))
     case y8=>(intro _;exact Z.cv Tryz.underlying3 rfl (IntWalk.i64_in _ (by omega)) (by rw[Tryz.underlying5];rfl))
     case y9=>(intro _;exact Z.mv rfl)
     case AZ=>(intro _;exact Z.mul rfl rfl (IntWalk.i64_in _ (by omega)))
     case KO=>(intro _;exact Z.add rfl rfl (IntWalk.i64_in _ (by omega)))
     case KP=>(intro _;exact Z.eq (u':=.v (.int .i64 ((D8 b1 q:Nat):Int))) (Z.bi rfl rfl rfl) (by rw[hki]))
     case KQ=>(intro _;exact Z.ia aZ rfl rfl (by omega) (by assumption) (by rfl))
     case KR=>exact Z.fO dW rfl
     case KS=>(intro _;exact Z.mv rfl)
     case KT=>(intro _;exact Z.mv rfl)
     case KU=>(intro _;exact Z.ia bP rfl rfl (by omega) (by assumption) (by exact Y _))
     case KV=>exact Z.IG av rfl (Y _)
     case KW=>(intro _;exact Z.eq (u':=.agg (aC (oN b1 (dG b1 l) (q+1)))) (Z.call rfl rfl (λ_=>jb _ hF hKs _ _ _)) rfl)
     refine CH.bX U U<|D.vW 0 av U U U U (by exact az _) (Y _) (Y _) U λ_=>?_
     refine CH.nil<|?_
     simp only[app,bS]
     refine UQ.aB<|UQ.then<|S.rg<|Q.mv U<|S.qu (Z.add (r:=((q+1:Nat):Int)) U U (IntWalk.i64_in _ (by omega)))<|Q.as U<|US.nil<|?_
     refine S.back _ ⟨rfl,rfl,rfl,rfl,rfl,rfl,rfl,rfl,trivial⟩ (.refl _) (by omega) (by omega)
    ·have hqe:q=(dG b1 l).length:=by omega
     refine S.sq<|Q.rg<|Q.mv U<|Q.mv U<|S.qu (Z.fM bP U)<|Q.bi U U U<|Q.nt<|S.cF U (decide_eq_false (by omega))<|UW.exit<|UQ.pass<|UQ.pass<|UQ.here<|UQ.aB<|?_
     refine S.iD (_,_) ⟨rfl,rfl,rfl,rfl,rfl,rfl,trivial⟩ (.refl _) (by unfold Dz at hsw;(repeat' split at hsw);all_goals first|omega|(cases hsw;exact⟨by rfl,by rw[hqe]⟩))
   ·refine S.loop (λq:Nat=>[(9,.v (.int .i64 (q:Int))),(7,.sl (bu (dG b1 l))),(8,.ptr p8 0),(3,.own id 0 (l.length-mQ b1 l-0) 5),(5,.v (.int .i64 ((2*n:Nat):Int))),(4,strs zT),(0,yM c),(2,.ptr p2 0)]) (λq=>[(p8,.box 26 (aC (oN b1 (dG b1 l) q))),(id,.row 26 5 (bu l)),(p2,.box 26 (aC zeroV))]) (λq=>q<=(dG b1 l).length) (λq=>(dG b1 l).length-q) 0 (Nat.zero_le _) ⟨rfl,rfl,rfl,rfl,rfl,rfl,rfl,rfl,trivial⟩ (.refl _)<|?_
    rintro q hq
    have XI:=aS (dG b1 l)
    by_cases hql:q<(dG b1 l).length
    ·have hF:=yj b1 (dG b1 l) Xo q (by omega)
     have hKs:=(yh b1 (dG b1 l) Xo q).2.2.2.1
     have Ij:=GD b1 q LB
     have hki:=Bi b1 q LB
     have hgv:=Eo (dG b1 l) q hql
     refine S.sq<|Q.rg<|Q.mv U<|Q.mv U<|S.qu (Z.fM bP U)<|Q.bi U U U<|Q.nt<|S.cT U (decide_eq_true (by omega))<|UW.skip<|UQ.then<|S.sq<|UW.block<|?_
     refine' UW.bG (by kernel_rfl) [0,0,0,0,8,28,60,124,252,0,512,2044,4092,8190,16382,0,0,98304,229376,524287,1048575] [some 124,some 125,some 126,some 127,some 128,some 129,some 130,some 131,some 132,some 133,some 134,some 135,some 136,some 137,some 138,some 139,some 140,some 141,some 142,some 143,none] [some (124,_),some (125,_),some (126,_),some (127,_),some (128,_),some (129,_),some (130,_),some (131,_),some (132,_),some (133,_),some (134,_),some (135,_),some (136,_),some (137,_),some (138,_),some (139,_),some (140,_),some (141,_),some (142,_),some (143,_),none] [20] [0,6,14,18] U (by decide) (by decide) (M.held (by decide) U U ?zw (M.free (by decide) U U ?uI (M.free (by decide) U U ?uJ (M.free (by decide) U U ?zx (M.free (by decide) U U ?zy (M.free (by decide) U U ?zz (M.held (by decide) U U ?zA (M.free (by decide) U U ?zB (M.free (by decide) U U ?zC (M.free (by decide) U U ?PQ (M.free (by decide) U U ?J9 (M.free (by decide) U U ?Ka (M.free (by decide) U U ?ZU (M.free (by decide) U U ?ZV (M.held (by decide) U U ?ZW (M.free (by decide) U U ?ZX (M.free (by decide) U U ?ZY (M.free (by decide) U U ?ZZ (M.held (by decide) U U ?Z0 (M.free (by decide) U U ?Z4 (M.skip M.nil))))))))))))))))))))) ?J8
     case zw=>exact Z.bW 0 av rfl rfl (Y _)
     case uI=>(intro _;exact Z.mv rfl)
     case uJ=>(intro _;exact Z.mv rfl)
     case zx=>(intro _;exact Z.mv rfl)
     case zy=>(intro _;exact Z.add (r:=((2*n+1:Nat):Int)) rfl rfl (IntWalk.i64_in _ (by omega)))
     case zz=>(intro _;exact Z.ia cK rfl rfl (by omega) hg1 rfl)
     case zA=>exact Z.fO oW rfl
     case zB=>(intro _;exact Z.eq (u':=.v (.int .u8 (b1.tdiv 4))) (Z.bi rfl rfl rfl) (by congr 2;exact IntWalk.u8_in _ (by omega)))
     case zC=>(intro _;exact Z.cv Tryz.underlying3 rfl (IntWalk.i64_in _ (by omega)) (by rw[Tryz.underlying5];rfl))
     case PQ=>(intro _;exact Z.mv rfl)
     case J9=>(intro _;exact Z.mul rfl rfl (IntWalk.i64_in _ (by omega)))
     case Ka=>(intro _;exact Z.add rfl rfl (IntWalk.i64_in _ (by omega)))
     case ZU=>(intro _;exact Z.eq (u':=.v (.int .i64 ((D8 b1 q:Nat):Int))) (Z.bi rfl rfl rfl) (by rw[hki]))
     case ZV=>(intro _;exact Z.ia aZ rfl rfl (by omega) (by assumption) (by rfl))
     case ZW=>exact Z.fO dW rfl
     case ZX=>(intro _;exact Z.mv rfl)
     case ZY=>(intro _;exact Z.mv rfl)
     case ZZ=>(intro _;exact Z.ia bP rfl rfl (by omega) (by assumption) (by exact Y _))
     case Z0=>exact Z.IG av rfl (Y _)
     case Z4=>(intro _;exact Z.eq (u':=.agg (aC (oN b1 (dG b1 l) (q+1)))) (Z.call rfl rfl (λ_=>jb _ hF hKs _ _ _)) rfl)
     refine CH.bX U U<|D.vW 0 av U U U U (by exact az _) (Y _) (Y _) U λ_=>?_
     refine CH.nil<|?_
     simp only[app,bS]
     refine UQ.aB<|UQ.then<|S.rg<|Q.mv U<|S.qu (Z.add (r:=((q+1:Nat):Int)) U U (IntWalk.i64_in _ (by omega)))<|Q.as U<|US.nil<|?_
     refine S.back _ ⟨rfl,rfl,rfl,rfl,rfl,rfl,rfl,rfl,trivial⟩ (.refl _) (by omega) (by omega)
    ·have hqe:q=(dG b1 l).length:=by omega
     refine S.sq<|Q.rg<|Q.mv U<|Q.mv U<|S.qu (Z.fM bP U)<|Q.bi U U U<|Q.nt<|S.cF U (decide_eq_false (by omega))<|UW.exit<|UQ.pass<|UQ.pass<|UQ.here<|UQ.aB<|?_
     refine S.iD (_,_) ⟨rfl,rfl,rfl,rfl,rfl,rfl,trivial⟩ (.refl _) (by unfold Dz at hsw;(repeat' split at hsw);all_goals first|omega|(cases hsw;exact⟨by rfl,by rw[hqe]⟩))
  ·focus
    refine S.sq<|Q.rg<|Q.mv U<|S.qu (Z.add U U (IntWalk.i64_in _ (by omega)))<|Q.mv U<|S.qu (Z.fM cK U)<|Q.bi U U U<|Q.mv U<|?_
    refine S.tD 16 (λhc16=>?_) (λhc16=>?_)
    rotate_left
    omega
    refine Q.on (Z.mv U)<|Q.on (Z.bi U U U)<|Q.pk U U<|Q.nt<|S.cF U (decide_eq_false (by omega))<|UW.exit<|UQ.pass<|UQ.pass<|UQ.here<|UQ.then<|Q.rg<|Q.mv U<|US.fV 148 0 (rs:=bu (oO c n)) U U (Nat.le_of_eq (by omega)) (by rw[List.drop_zero,<-hvl,List.take_length])<|?_
    refine S.qu (Z.bd [0,4] gU U U U U U U)<|S.s<|D.st 0 av U U U U U U U U λ_=>Q.nt<|UW.ret<|S.bH (λhd=>aX (k:=0) hd U U U gQ gT)<|?_
    focus (rw[show valOf c=.mk 4 0 ⟨#[]⟩ [] (oO c n) from by unfold valOf;congr 2;omega];rfl;done)
 ·refine S.sq<|Q.rg<|Q.mv U<|S.qu (Z.add U U (IntWalk.i64_in _ (by omega)))<|Q.mv U<|S.qu (Z.fM cK U)<|Q.bi U U U<|Q.mv U<|?_
  refine S.tD 16 (λhc16=>?_) (λhc16=>?_)
  omega
  refine Q.of<|Q.of<|Q.pk U U<|Q.nt<|S.cF U U<|UW.exit<|UQ.pass<|UQ.pass<|UQ.here<|UQ.then<|Q.rg<|Q.mv U<|US.fV 148 0 (rs:=bu (oO c n)) U U (Nat.le_of_eq (by omega)) (by rw[List.drop_zero,<-hvl,List.take_length])<|?_
  refine S.qu (Z.bd [0,4] gU U U U U U U)<|S.s<|D.st 0 av U U U U U U U U λ_=>Q.nt<|UW.ret<|S.bH (λhd=>aX (k:=0) hd U U U gQ gT)<|?_
  focus (rw[show valOf c=.mk 4 0 ⟨#[]⟩ [] (oO c n) from by unfold valOf;congr 2;omega];rfl;done)
def Good(d:Int)(x:V):Prop:=Fits x/\Tx x/\cZ x<=d
theorem tN{k n:Int}{t:ByteArray}{ks:List ByteArray}{vs:List V}{d:Int}(hd:0<=d)(h:∀v∈vs,cZ v<=d):cZ (.mk k n t ks vs)<=d+1:=by
 rw[cZ]
 split
 ·rw[xY,Tn _ (λc hc=>by obtain⟨x,_,rfl⟩:=List.mem_map.1 hc;exact AO x)]
  have:=uC (r:=vs.map cZ) (a:=d) (b:=0) hd (λc hc=>by obtain⟨x,hx,rfl⟩:=List.mem_map.1 hc;exact h x hx)
  omega
 ·omega
theorem LC{k n:Int}{t:ByteArray}{ks:List ByteArray}{vs:List V}{d:Int}(hd:0<=d)(h1:ks.length<=1000000)(h2:vs.length<=1000000)(h3:t.size<=4000000)(h4:∀s∈ks,s.size<=4000000)(h:∀v∈vs,Good d v):Good (d+1) (.mk k n t ks vs):=
 ⟨.mk _ _ _ _ _ h1 h2 λx hx=>(h x hx).1,.mk _ _ _ _ _ h3 h4 λx hx=>(h x hx).2.1,tN hd λv hv=>(h v hv).2.2⟩
theorem Good.up{d d':Int}{x:V}(h:Good d x)(hd:d<=d'):Good d' x:=⟨h.1,h.2.1,by have:=h.2.2;omega⟩
theorem pW{k n:Int}{t:ByteArray}{d:Int}(hd:0<=d)(h3:t.size<=4000000)(hk:k<4):Good d (.mk k n t [] []):=
 ⟨.mk _ _ _ _ _ (by simp) (by simp) (by simp),.mk _ _ _ _ _ h3 (by simp) (by simp),by rw[cZ,if_neg (by omega)];exact hd⟩
theorem CB{d:Int}(hd:0<=d):Good d zeroV:=pW hd (by decide) (by decide)
theorem Z5{x:V}{d:Int}(hd:0<=d)(h1:x.ks.length<=1000000)(h2:x.vs.length<=1000000)(h3:x.t.size<=4000000)(h4:∀s∈x.ks,s.size<=4000000)(h:∀v∈x.vs,Good d v):Good (d+1) x:=by
 obtain⟨k,n,t,ks,vs⟩:=x
 exact LC hd h1 h2 h3 h4 h
theorem Z6(x:V)(key:ByteArray)(y:V):(aQ x key y).t=(fw x).t:=by unfold aQ;split<;>rfl
theorem V6(b1:Int)(kids:List V):∀q,(oN b1 kids q).t=⟨#[]⟩
 |0=>rfl
 |q+1=>by
  show(aQ _ _ _).t=_
  rw[Z6]
  unfold fw
  split
  ·exact V6 b1 kids q
  ·rfl
theorem I9(b1:Int)(kids:List V)(d:Int)(hd:0<=d)(hk:∀x∈kids,Good d x):∀q,∀v∈(oN b1 kids q).vs,Good d v
 |0=>by intro v h;cases h
 |q+1=>by
  intro v hv
  rcases uX hv with h|h
  ·have e:fw (oN b1 kids q)=oN b1 kids q\/fw (oN b1 kids q)=.mk 5 0 ⟨#[]⟩ [] []:=by unfold fw;split;exact .inl U;exact .inr U
   rcases e with e|e
   ·rw[e] at h;exact I9 b1 kids d hd hk q v h
   ·rw[e] at h;cases h
  ·subst h
   by_cases hi:q<kids.length
   ·exact hk _ (fI hi)
   ·simp only[List.getD,List.getElem?_eq_none (Nat.le_of_not_lt hi)];exact CB hd
theorem V7(b0 b1:Int)(t:ByteArray)(l:List V)(d:Int)(hd:0<=d)(ht:t.size<=4000000)(hl:l.length<=1000)(h:∀x∈l,Good d x):Good (d+1) (Dz b0 b1 t l).2:=by
 have hk:∀x∈dG b1 l,Good d x:=λx hx=>h x (List.mem_of_mem_drop hx)
 have hkl:(dG b1 l).length<=l.length:=by unfold dG;rw[List.length_drop];omega
 unfold Dz
 repeat' split
 ·exact pW (by omega) (by decide) (by decide)
 ·exact pW (by omega) (by decide) (by decide)
 ·exact pW (by omega) (by decide) (by decide)
 ·exact pW (by omega) (by decide) (by decide)
 ·exact pW (by omega) ht (by decide)
 ·exact LC hd (by simp) (by omega) (by decide) (by simp) hk
 ·obtain⟨_,h1,h2,h3,_⟩:=yh b1 (dG b1 l) (λx hx=>(hk x hx).1) (dG b1 l).length
  show Good (d+1) (oN b1 (dG b1 l) (dG b1 l).length)
  exact Z5 hd (by omega) (by omega) (by rw[V6];decide) h3 (I9 b1 _ d hd hk _)
 ·exact CB (by omega)
theorem CE(c:List Int):∀n,n<=100->∀x∈oO c n,Good (n:Int) x
 |0,_=>by intro x h;cases h
 |n+1,hn=>by
  obtain⟨h1,_⟩:=En c n (by omega)
  have ih:=CE c n (by omega)
  intro x hx
  rcases List.mem_append.1 hx with h|h
  ·exact(ih x (List.mem_of_mem_take h)).up (by omega)
  ·rw[List.mem_singleton.1 h]
   exact V7 _ _ _ _ n (by omega) (Nat.le_trans (textOf_size _) (by decide)) (by omega) ih
theorem Qv(c:List Int):Good 31 (valOf c):=by
 obtain⟨h1,_⟩:=En c (min (c.length/2) 30) (by omega)
 have h2:=CE c (min (c.length/2) 30) (by omega)
 exact(LC (d:=((min (c.length/2) 30:Nat):Int)) (by omega) (by simp) (by omega) (by decide) (by simp) h2).up (by omega)
theorem GH{k n:Int}{t:ByteArray}{ks:List ByteArray}{vs:List V}(h:dS (.mk k n t ks vs)=true):∀v∈vs,dS v=true:=by
 intro v hv
 obtain⟨j,hj,rfl⟩:=List.getElem_of_mem hv
 cases hr:dS vs[j] with
 |true=>rfl
 |false=>rw[IZ (FB hj hr)] at h;cases h
theorem Qw:dS zeroV=true:=by kernel_rfl
def qK(c:List Int)(b:Int):V:=
 if (valOf c).vs.length=0\/dS (valOf c)=false then zeroV else(valOf c).vs.getD (b.tmod ((valOf c).vs.length:Int)).toNat zeroV
theorem CF(c:List Int)(b:Int)(hb:0<=b):qK c b=zeroV\/(qK c b∈(valOf c).vs/\dS (valOf c)=true):=by
 unfold qK
 split
 ·exact .inl U
 ·rename_i h
  rw[not_or] at h
  refine .inr ⟨fI ?_,by simpa using h.2⟩
  have h1:=Int.tmod_nonneg ((valOf c).vs.length:Int) hb
  have h2:=Int.tmod_lt_of_pos b (by omega:(0:Int)<((valOf c).vs.length:Int))
  omega
theorem GI(c:List Int)(b:Int)(hb:0<=b):Good 30 (qK c b):=by
 rcases CF c b hb with h|⟨h,_⟩
 ·rw[h];exact CB (by decide)
 ·exact(CE c _ (by omega) _ h).up (by omega)
theorem NP(c:List Int)(b:Int)(hb:0<=b):dS (qK c b)=true:=by
 rcases CF c b hb with h|⟨h,h2⟩
 ·rw[h];exact Qw
 ·exact GH h2 _ h
theorem TV(c:List Int)(hc:wy c)(b:Int)(hb0:0<=b)(hb1:b<256)(H:Hp):au Tryz.prog 82 [yM c,.v (.int .u8 b)] H (bB H (.agg (aC (qK c b)))):=by
 have h0:(valOf c).vs.length=0\/dS (valOf c)=false->qK c b=zeroV:=λh=>by unfold qK;rw[if_pos h]
 have h1:¬((valOf c).vs.length=0\/dS (valOf c)=false)->qK c b=(valOf c).vs.getD (b.tmod ((valOf c).vs.length:Int)).toNat zeroV:=λh=>by unfold qK;rw[if_neg h]
 have hg:=Qv c
 have hval:∀H,au Tryz.prog 117 [yM c] H (bB H (.agg (aC (valOf c)))):=V4 c hc
 generalize valOf c=x at*
 obtain⟨k,n,t,ks,vs⟩:=x
 simp only[Af] at h0 h1
 have hvl:=aS vs
 by_cases hz:vs.length=0
 ·rw[h0 (.inl hz)]
  refine aF (n:=28) (H0:=H) (I:=[]) Tryz.func82 (by kernel_rfl) U (by rw[Tryz.ntmps82];rfl) .nil<|?_
  focus
   refine Q.rg<|S.dd<|D.al z26 U U U λp4=>Q.nt<|Q.rg<|Q.mv U<|S.qu (Z.call U U (λ_=>hval _))<|S.dd<|D.al z26 U U U λp5=>S.s<|D.st 0 av U U U U U U U U λ_=>Q.nt<|S.sq<|Q.rg<|Q.fa bU U<|Q.lc 0 dR U U U<|S.qu (Z.fM bP U)<|Q.bi U U U<|Q.mv U<|?_
   refine S.tE 12 (λCj=>?_) (λCj=>?_)
   rotate_left
   omega
   refine Q.of<|Q.of<|Q.of<|Q.pk U U<|Q.nt<|S.cT U U<|Q.rg<|S.qu (Z.bd [] gU U U U U U U)<|S.s<|D.st 1 av U U U U U U U U λ_=>Q.nt<|UW.ret<|UQ.ax<|S.bH (λhd=>aX (k:=1) hd U U U gQ gT)<|?_
   rfl
 ·cases hr:dS (.mk k n t ks vs) with
  |false=>
   rw[h0 (.inr hr)]
   refine aF (n:=28) (H0:=H) (I:=[]) Tryz.func82 (by kernel_rfl) U (by rw[Tryz.ntmps82];rfl) .nil<|?_
   refine Q.rg<|S.dd<|D.al z26 U U U λp4=>Q.nt<|Q.rg<|Q.mv U<|S.qu (Z.call U U (λ_=>hval _))<|S.dd<|D.al z26 U U U λp5=>S.s<|D.st 0 av U U U U U U U U λ_=>Q.nt<|S.sq<|Q.rg<|Q.fa bU U<|Q.lc 0 dR U U U<|S.qu (Z.fM bP U)<|Q.bi U U U<|Q.mv U<|?_
   refine S.tE 12 (λCj=>?_) (λCj=>?_)
   omega
   refine Q.on (Z.bW 0 av U U U)<|Q.on (Z.eq (Z.call U U (λ_=>Dq _ hg.1 hg.2.1 _)) (by rw[hr]))<|?_
   refine Q.on (Z.not U)<|Q.pk U U<|Q.nt<|S.cT U U<|Q.rg<|S.qu (Z.bd [] gU U U U U U U)<|S.s<|D.st 1 av U U U U U U U U λ_=>Q.nt<|UW.ret<|UQ.ax<|S.bH (λhd=>aX (k:=1) hd U U U gQ gT)<|?_
   rfl
  |true=>
   rw[h1 (by simp[hz,hr])]
   have hm0:=Int.tmod_nonneg (vs.length:Int) hb0
   have hm1:=Int.tmod_lt_of_pos b (by omega:(0:Int)<(vs.length:Int))
   have hkg:=Eo vs (b.tmod (vs.length:Int)).toNat (by omega)
   refine aF (n:=28) (H0:=H) (I:=[]) Tryz.func82 (by kernel_rfl) U (by rw[Tryz.ntmps82];rfl) .nil<|?_
   refine Q.rg<|S.dd<|D.al z26 U U U λp4=>Q.nt<|Q.rg<|Q.mv U<|S.qu (Z.call U U (λ_=>hval _))<|S.dd<|D.al z26 U U U λp5=>S.s<|D.st 0 av U U U U U U U U λ_=>Q.nt<|S.sq<|Q.rg<|Q.fa bU U<|Q.lc 0 dR U U U<|S.qu (Z.fM bP U)<|Q.bi U U U<|Q.mv U<|?_
   refine S.tE 12 (λCj=>?_) (λCj=>?_)
   omega
   refine Q.on (Z.bW 0 av U U U)<|Q.on (Z.eq (Z.call U U (λ_=>Dq _ hg.1 hg.2.1 _)) (by rw[hr]))<|?_
   refine Q.on (Z.not U)<|Q.pk U U<|Q.nt<|S.cF U U<|UW.skip<|UQ.then<|S.sq<|?_
   refine' UW.bG (by kernel_rfl) [0,1,0,4,0,16,48,124,255,511,1023] [some 18,some 19,some 20,some 21,some 22,some 23,some 24,some 25,some 26,some 27,none] [some (18,_),some (19,_),some (20,_),some (21,_),some (22,_),some (23,_),some (24,_),some (25,_),some (26,_),some (27,_),none] [10] [1,5,9] U (by decide) (by decide) (M.free (by decide) U U ?jG (M.held (by decide) U U ?jH (M.free (by decide) U U ?jI (M.free (by decide) U U ?jJ (M.free (by decide) U U ?jK (M.held (by decide) U U ?kE (M.free (by decide) U U ?nK (M.free (by decide) U U ?zD (M.free (by decide) U U ?zF (M.held (by decide) U U ?zG (M.skip M.nil))))))))))) ?uH
   case jG=>(intro _;exact Z.fa bU rfl)
   case jH=>exact Z.dM 0 dR rfl rfl rfl
   case jI=>(intro _;exact Z.mv rfl)
   case jJ=>(intro _;exact Z.cv Tryz.underlying3 rfl (IntWalk.i64_in _ (by omega)) (by rw[Tryz.underlying5];rfl))
   case jK=>(intro _;exact Z.fa bU rfl)
   case kE=>exact Z.dM 0 dR rfl rfl rfl
   case nK=>(intro _;exact Z.fM bP rfl)
   case zD=>(intro _;exact Z.bi (vr:=.int .i64 (b.tmod (vs.length:Int))) rfl rfl (by rw[hvl];exact if_neg (by omega)))
   case zF=>(intro _;exact Z.ia bP rfl rfl (by omega) (by assumption) (by exact Y _))
   case zG=>exact Z.IG av rfl (Y _)
   refine CH.bX U U<|D.vW 1 av U U U U (by exact az _) (Y _) U U λ_=>?_
   refine CH.nil<|?_
   simp only[app,bS]
   refine UQ.then<|UW.ret<|S.bH (λhd=>aX (k:=1) hd U U U gQ (by rw[Y];exact gT))<|?_
   rfl
theorem Ja:∀a:List UInt8,Lib.compareBytes a a=0
 |[]=>rfl
 |a::l=>by
  rw[Lib.compareBytes,if_neg (by exact UInt8.lt_irrefl a),if_neg (by exact UInt8.lt_irrefl a),Ja l]
theorem Qx(a b:UInt8)(h1:¬a<b)(h2:¬b<a):a=b:=by
 apply UInt8.toNat_inj.1
 rw[UInt8.lt_iff_toNat_lt] at h1 h2
 omega
theorem NQ:∀a b:List UInt8,Lib.compareBytes a b=0->a=b
 |[],[],_=>rfl
 |[],_::_,h=>by simp[Lib.compareBytes] at h
 |_::_,[],h=>by simp[Lib.compareBytes] at h
 |a::l,b::r,h=>by
  rw[Lib.compareBytes] at h
  split at h
  ·cases h
  ·split at h
   ·cases h
   ·rename_i h1 h2
    rw[Qx a b h1 h2,NQ l r h]
theorem Jb:∀a b:List UInt8,Lib.compareBytes b a= -Lib.compareBytes a b
 |[],[]=>rfl
 |[],_::_=>rfl
 |_::_,[]=>rfl
 |a::l,b::r=>by
  rw[Lib.compareBytes,Lib.compareBytes]
  by_cases h1:a<b
  ·have h2:¬b<a:=by rw[UInt8.lt_iff_toNat_lt] at h1⊢;omega
   rw[if_neg h2,if_pos h1,if_pos h1];rfl
  ·by_cases h2:b<a
   ·rw[if_pos h2,if_neg h1,if_pos h2]
   ·rw[if_neg h2,if_neg h1,if_neg h1,if_neg h2];exact Jb l r
theorem GJ:∀a b c:List UInt8,Lib.compareBytes a b<0->Lib.compareBytes b c<0->Lib.compareBytes a c<0
 |[],_,[],h1,h2=>by
  rename_i b
  cases b with
  |nil=>simp[Lib.compareBytes] at h1
  |cons x r=>simp[Lib.compareBytes] at h2
 |[],_,_::_,_,_=>by simp[Lib.compareBytes]
 |_::_,[],_,h1,_=>by simp[Lib.compareBytes] at h1
 |_::_,_::_,[],_,h2=>by simp[Lib.compareBytes] at h2
 |a::l,b::r,c::q,h1,h2=>by
  rw[Lib.compareBytes] at h1 h2⊢
  by_cases ab:a<b
  ·by_cases bc:b<c
   ·rw[if_pos (by rw[UInt8.lt_iff_toNat_lt] at*;omega)];decide
   ·rw[if_neg bc] at h2
    by_cases cb:c<b
    ·rw[if_pos cb] at h2;simp at h2
    ·have:=Qx b c bc cb;subst this
     rw[if_pos ab];decide
  ·rw[if_neg ab] at h1
   by_cases ba:b<a
   ·rw[if_pos ba] at h1;simp at h1
   ·have:=Qx a b ab ba;subst this
    rw[if_neg ba] at h1
    by_cases bc:a<c
    ·rw[if_pos bc];decide
    ·rw[if_neg bc] at h2⊢
     by_cases cb:c<a
     ·rw[if_pos cb] at h2;simp at h2
     ·rw[if_neg cb] at h2⊢;exact GJ l r q h1 h2
theorem xh(a:ByteArray):eD a a=false:=by unfold eD Fj;rw[Ja];rfl
theorem zU{a b c:ByteArray}(h1:eD a b=true)(h2:eD b c=true):eD a c=true:=by
 unfold eD at*;exact decide_eq_true (GJ _ _ _ (of_decide_eq_true h1) (of_decide_eq_true h2))
theorem V8{a b:ByteArray}(h1:eD a b=false)(h2:a≠b):eD b a=true:=by
 unfold eD Fj at*
 have h3:=of_decide_eq_false h1
 have h4:Lib.compareBytes a.data.toList b.data.toList≠0:=λh=>h2 (ByteArray.ext (Array.toList_inj.1 (NQ _ _ h)))
 exact decide_eq_true (by rw[Jb];omega)
def Asc(ks:List ByteArray):Prop:=∀i j (hi:i<ks.length) (hj:j<ks.length),i<j->eD ks[i] ks[j]=true
theorem TW{ks:List ByteArray}(h:oM ks=true):Asc ks/\∀s∈ks,RN s<0:=by
 unfold oM at h
 rw[List.all_eq_true] at h
 have h1:∀i (hi:i<ks.length),RN ks[i]<0/\(0<i->eD (ks.getD (i-1) ⟨#[]⟩) ks[i]=true):=λi hi=>by
  have:=h i (List.mem_range.2 hi)
  unfold rT at this
  rw[getD_at hi,Bool.and_eq_true,Bool.or_eq_true] at this
  refine⟨of_decide_eq_true this.1,λh0=>?_⟩
  rcases this.2 with h2|h2
  ·have:=of_decide_eq_true h2;omega
  ·exact h2
 refine⟨λi j hi hj hij=>?_,λs hs=>by obtain⟨i,hi,rfl⟩:=List.getElem_of_mem hs;exact(h1 i hi).1⟩
 have step:∀d,∀j (hj:j<ks.length),j=i+1+d->eD ks[i] ks[j]=true:=by
  intro d
  induction d with
  |zero=>
   intro j hj e
   have:=(h1 j hj).2 (by omega)
   rw[getD_at (by omega)] at this
   have e2:j-1=i:=by omega
   simpa[e2] using this
  |succ d ih=>
   intro j hj e
   have h2:=(h1 j hj).2 (by omega)
   rw[getD_at (by omega)] at h2
   exact zU (ih (j-1) (by omega) (by omega)) h2
 exact step (j-i-1) j hj (by omega)
theorem TY{ks:List ByteArray}(h:Asc ks)(hc:∀s∈ks,RN s<0):oM ks=true:=by
 unfold oM
 rw[List.all_eq_true]
 intro i hi
 have hi:=List.mem_range.1 hi
 unfold rT
 rw[getD_at hi,decide_eq_true (hc _ (List.getElem_mem hi))]
 by_cases h0:i=0
 ·simp[h0]
 ·rw[getD_at (by omega)]
  have:=h (i-1) i (by omega) hi (by omega)
  unfold eD at this
  simp[this]
theorem LD{ks:List ByteArray}(h:Asc ks){i j:Nat}(hi:i<ks.length)(hj:j<ks.length)(e:ks[i]=ks[j]):i=j:=by
 rcases Nat.lt_trichotomy i j with h1|h1|h1
 ·have:=h i j hi hj h1;rw[e,xh] at this;cases this
 ·exact h1
 ·have:=h j i hj hi h1;rw[e,xh] at this;cases this
theorem zV{ks:List ByteArray}(h:Asc ks){i:Nat}(hi:i<ks.length):dF ks ks[i]=some i:=
 Cg hi (by simp) λj hj hji=>by
  by_cases e:ks[i].toList=ks[j].toList
  ·have:=LD h hj hi (gI e).symm;omega
  ·simpa using e
theorem GK{ks:List ByteArray}{s:ByteArray}(h:s∉ks):dF ks s=none:=by
 unfold dF
 rw[List.findIdx?_eq_none_iff]
 intro x hx
 by_cases e:s.toList=x.toList
 ·exact absurd (gI e▸hx) h
 ·simpa using e
theorem qL{ks:List ByteArray}{s:ByteArray}(h:dF ks s=none):s∉ks:=λhm=>by
 unfold dF at h
 rw[List.findIdx?_eq_none_iff] at h
 have:=h s hm
 simp at this
end Go.Proofs.YtonpfomjoiaacaaGreatDoor
end
