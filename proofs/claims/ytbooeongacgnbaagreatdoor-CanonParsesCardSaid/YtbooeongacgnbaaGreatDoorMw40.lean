/- A part of the proof. -/
import Derived.Test.YtbooeongacgnbaaGreatDoorMw33
import Derived.Test.YtbooeongacgnbaaGreatDoorMw19
set_option maxRecDepth 100000
set_option maxHeartbeats 4000000
set_option linter.unusedSectionVars false
set_option linter.unusedVariables false
set_option linter.unusedSimpArgs false
section
namespace Go.gW
open Go Go.RowKit
theorem S.Zk{P:Program}{n:Nat}{Q:oo->Sl->Hp->Prop}{H0:Hp}{l:List (Nat×AV)}{M:List (Nat×Ob)}{c c2:Code}{α β:Type}(a0:α)(b0:β)(L:α->β->List (Nat×AV))(O:α->β->List (Nat×Ob))(hx:UW P n (ku (NP H0 (λs:α×β=>L s.1 s.2) (λs=>O s.1 s.2) (λs=>s.1=a0/\s.2=b0)) Q) H0 c l M)(hy:UW P n Q H0 c2 (L a0 b0) (O a0 b0)):UW P n Q H0 (.seq c c2) l M:=
 S.Uf _ _ _ hx λa h=>by obtain⟨a1,a2⟩:=a;obtain⟨h1,h2⟩:=h;cases h1;cases h2;exact hy
end Go.gW
end
section
namespace Go.Proofs.YtbooeongacgnbaaGreatDoor
open Go Go.gW Go.RowKit
theorem KJ{b k:Int}(h:0<=b):0<=b.tmod k:=Int.tmod_nonneg _ h
theorem KL{b k:Int}(hk:0<k):b.tmod k<k:=Int.tmod_lt_of_pos _ hk
theorem LB{c:List Int}(hc:BR c){k:Nat}(h:k<c.length):(c.map wX)[k]? =some (wX (c.getD k 0))/\0<=c.getD k 0/\c.getD k 0<256:=by
 rw[getD_at h];exact⟨zw c k h,hc _ (List.getElem_mem h)⟩
theorem BR.cut{c:List Int}(hc:BR c)(m m':Nat):BR ((c.take m').drop m):=λb hb=>hc b (List.mem_of_mem_take (List.mem_of_mem_drop hb))
theorem LC(c:List Int)(m m':Nat):AV.sl ((List.take m' (c.map wX)).drop m)=xH ((c.take m').drop m):=by
 unfold xH;rw[List.map_drop,List.map_take]
theorem Pv(l:List V)(k:Nat):((List.drop (0+k) (bE l)).take (l.length-k))=bE (l.drop k):=by
 rw[Nat.zero_add,List.take_of_length_le (by rw[List.length_drop,aS];exact Nat.le_refl _),dY,dY,List.map_drop]
theorem xz(b1:Int)(q:Nat)(h:0<=b1):((zh b1 q:Nat):Int)=(b1.tdiv 4+3*(q:Int)).tmod 8:=by
 have:=Int.tdiv_nonneg h (by decide:(0:Int)<=4)
 unfold zh;exact Int.toNat_of_nonneg (KJ (by omega))
theorem BD(b1:Int)(q:Nat)(h:0<=b1):(ve.map encS)[zh b1 q]? =some (encS (ve.getD (zh b1 q) ⟨#[]⟩)):=by
 have e:=xz b1 q h
 have h2:=KL (b:=b1.tdiv 4+3*(q:Int)) (k:=8) (by decide)
 have h3:zh b1 q<ve.length:=by show _<8;omega
 rw[getD_at h3];exact gT _ _ h3
theorem zD(l:List V)(q:Nat)(h:q<l.length):(bE l)[q]? =some (aN (l.getD q zeroV)):=by
 rw[getD_at h];exact jh l q h
theorem Pw(c:List Int)(hc:BR c)(H:Hp):F Tryz.prog 26 [xH c] H (bn H (.agg (aN (valOf c)))):=by
 have BM:(c.map wX).length=c.length:=List.length_map ..
 refine aA (n:=150) (H0:=H) (M:=[]) Tryz.func26 (by kernel_rfl) U (by rw[Tryz.ntmps26];rfl) .nil<|?_
 refine Q.rg<|S.dd<|D.al z27 U U U λp2=>Q.nt<|Q.rg<|Q.as U<|US.DZ 3 27 5 (by decide) U λid=>Q.nt<|Q.rg<|S.qu (Z.bl iM U U (dx U))<|Q.as U<|Q.nt<|S.sq<|Q.rg<|Q.as U<|Q.nt<|UW.block<|S.loop (λs:Nat×Nat=>[(5,.v (.int .i64 ((2*s.1:Nat):Int))),(3,.own s.2 0 (lK c s.1).length 5),(4,strs ve),(0,xH c),(2,.ptr p2 0)]) (λs=>[(s.2,.row 27 5 (bE (lK c s.1))),(p2,.box 27 (aN zeroV))]) (λs=>s.1<=c.length/2/\s.1<=30) (λs=>30-s.1) (0,id) ⟨Nat.zero_le _,Nat.zero_le _⟩ ⟨rfl,rfl,rfl,rfl,rfl,trivial⟩ (.refl _)<|?_
 rintro⟨n,id⟩ ⟨hn,Zl⟩
 simp only at hn Zl
 simp only
 have hvl:=aS (lK c n)
 by_cases hlt:2*n+1<c.length
 ·by_cases hl30:n<30
  ·obtain⟨hg0,hb00,hb01⟩:=LB hc (by omega:2*n<c.length)
   obtain⟨hg1,FR,hb11⟩:=LB hc hlt
   obtain⟨hL1,hL2⟩:=zC c n (by omega)
   have hstep:lK c (n+1)=Ih c (2*n) (lK c n):=rfl
   unfold Ih at hstep
   have hm:=(Ii (c.getD (2*n) 0) (c.getD (2*n+1) 0) (textOf ((c.take (min c.length (2*n+3))).drop (2*n))) (lK c n) (by omega) hL2).2
   generalize c.getD (2*n) 0=b0 at*
   generalize c.getD (2*n+1) 0=b1 at*
   generalize lK c n=l at*
   have hr0:=KJ (k:=4) FR
   have hr1:=KL (b:=b1) (k:=4) (by decide)
   have hr2:=KJ (k:=2) FR
   have hr3:=KL (b:=b1) (k:=2) (by decide)
   have hd4:b1.tdiv 4=b1/4:=Int.tdiv_eq_ediv_of_nonneg FR
   have hkl:(cu b1 l).length<=l.length:=by unfold cu;rw[List.length_drop];omega
   have WJ:∀x∈cu b1 l,Fits x:=λx hx=>hL2 x (List.mem_of_mem_drop hx)
   have htk:j6 b1 l<=l.length:=Nat.min_le_right _ _
   generalize hsw:yV b0 b1 (textOf ((c.take (min c.length (2*n+3))).drop (2*n))) l=sw at*
   obtain⟨m,x⟩:=sw
   simp only at hstep hm
   have hsl:(lK c (n+1)).length=m+1:=by rw[hstep,List.length_append,List.length_take,List.length_singleton];omega
   have hse:(bE l).take m++[aN x]=bE (lK c (n+1)):=by rw[hstep,dY,dY];simp[List.map_take]
   focus
    refine S.sq<|Q.rg<|Q.mv U<|S.qu (Z.add U U (IntWalk.i64_in _ (by omega)))<|Q.mv U<|S.qu (Z.iy jf U)<|Q.bi U U U<|Q.mv U<|?_
    refine S.tD 16 (λhc16=>?_) (λhc16=>?_)
    rotate_left
    omega
    refine Q.on (Z.mv U)<|Q.on (Z.bi U U U)<|Q.pk U U<|Q.nt<|S.cT U (decide_eq_true (by omega))<|UW.skip<|UQ.then<|S.sq<|UW.block<|Q.rg<|Q.mv U<|Q.mv U<|S.qu (Z.add (r:=((2*n+1:Nat):Int)) U U (IntWalk.i64_in _ (by omega)))<|S.qu (Z.ia jf U U (by omega) (by assumption) (by rfl))<|?_
    refine S.qu (Z.lF L6 U)<|Q.bi U U U<|S.qu (Z.cv Tryz.underlying3 U (IntWalk.i64_in _ (by omega)) (by rw[Tryz.underlying5];rfl))<|?_
    refine Q.mv U<|S.qu (Z.Co bR U)<|?_
    refine S.qu (Z.eq (u':=.v (.int .i64 ((j6 b1 l:Nat):Int))) (Z.min U U) (by unfold j6;congr 2;split<;>omega)) ?_
    refine Q.as U<|Q.nt<|Q.rg<|Q.as U<|Q.nt<|Q.rg<|Q.mv U<|Q.mv U<|Q.mv U<|S.qu (Z.Co bR U)<|Q.mv U<|S.qu (Z.eq (u':=.v (.int .i64 ((l.length-j6 b1 l:Nat):Int))) (Z.sub U U (IntWalk.i64_in _ (by omega))) (by congr 2;omega))<|?_
    refine S.qu (Z.zY bR U (.lo U) (by omega) (by omega))<|S.dd<|D.Yy iw U U (.own (k:=0) (rs:=bE (cu b1 l)) U (by omega) (Pv l (l.length-j6 b1 l))) (by have e:=aS (cu b1 l);omega) λp39=>?_
    refine US.D9 39 0 (rs:=bE (cu b1 l)) U U (Nat.le_of_eq (Nat.zero_add _)) (by rw[List.drop_zero,List.take_length])<|?_
    refine Q.as U<|Q.nt<|Q.rg<|S.qu (Z.bd [] dh U U U U U U)<|S.dd<|D.al z27 U U U λp8=>S.s<|D.st 0 ay U U U U U U U U λ_=>Q.nt<|?_
    refine S.Zk m (aN x) (λ(m:Nat) (x:List AV)=>[(3,.own id 0 m 5),(8,.ptr p8 0),(5,.v (.int .i64 ((2*n:Nat):Int))),(4,strs ve),(0,xH c),(2,.ptr p2 0)]) (λm x=>[(p8,.box 27 x),(id,.row 27 5 (bE l)),(p2,.box 27 (aN zeroV))]) ?_ ?_
    refine Q.rg<|Q.mv U<|Q.mv U<|S.qu (Z.ia jf U U (by omega) (by assumption) (by rfl))<|?_
    refine S.qu (Z.lF L6 U)<|Q.bi U U U<|Q.nt<|UW.block<|Q.rg<|Q.bi U U U<|Q.as U<|Q.nt<|?_
    refine S.cE U (λZm=>?_) (λZm=>?_)
    refine S.rg<|Q.mv U<|Q.mv U<|S.qu (Z.add (r:=((2*n+1:Nat):Int)) U U (IntWalk.i64_in _ (by omega)))<|S.qu (Z.ia jf U U (by omega) (by assumption) (by rfl))<|?_
    refine S.qu (Z.lF L6 U)<|Q.bi U U U<|S.qu (Z.cv Tryz.underlying2 U (IntWalk.i64_in _ (by omega)) (by rw[Tryz.underlying5];rfl))<|?_
    refine S.qu (Z.bd [0,1] dh U U U U U U)<|S.s<|D.st 0 ay U U U U U U U U λ_=>US.nil<|UQ.aI<|?_
    refine S.kY (_,_) ⟨rfl,rfl,rfl,rfl,rfl,rfl,trivial⟩ (.refl _) (by unfold yV at hsw;(repeat' split at hsw);all_goals first|omega|(cases hsw;exact⟨by rfl,by rfl⟩))
    refine S.sq<|Q.rg<|Q.bi U U U<|Q.as U<|Q.nt<|?_
    refine S.cE U (λKM=>?_) (λKM=>?_)
    refine UW.skip<|UQ.then<|S.cT U (cZ (by omega))<|S.rg<|Q.mv U<|Q.mv U<|S.qu (Z.add (r:=((2*n+1:Nat):Int)) U U (IntWalk.i64_in _ (by omega)))<|S.qu (Z.ia jf U U (by omega) (by assumption) (by rfl))<|?_
    refine S.qu (Z.lF L6 U)<|S.qu (Z.cv Tryz.underlying2 U (IntWalk.i64_in _ (by omega)) (by rw[Tryz.underlying5];rfl))<|?_
    refine S.qu (Z.sub U U (IntWalk.i64_in _ (by omega)))<|S.qu (Z.bd [0,1] dh U U U U U U)<|S.s<|D.st 0 ay U U U U U U U U λ_=>US.nil<|UQ.aI<|?_
    refine S.kY (_,_) ⟨rfl,rfl,rfl,rfl,rfl,rfl,trivial⟩ (.refl _) (by unfold yV at hsw;(repeat' split at hsw);all_goals first|omega|(cases hsw;exact⟨by rfl,by rfl⟩))
    refine Q.rg<|Q.bi U U U<|Q.as U<|Q.nt<|?_
    refine S.cE U (λKM=>?_) (λKM=>?_)
    refine UW.skip<|UQ.then<|S.cT U (cZ (by omega))<|S.rg<|Q.mv U<|Q.mv U<|S.qu (Z.add (r:=((2*n+1:Nat):Int)) U U (IntWalk.i64_in _ (by omega)))<|S.qu (Z.ia jf U U (by omega) (by assumption) (by rfl))<|?_
    refine S.qu (Z.lF L6 U)<|S.qu (Z.cv Tryz.underlying2 U (IntWalk.i64_in _ (by omega)) (by rw[Tryz.underlying5];rfl))<|?_
    refine S.qu (Z.sub U U (IntWalk.i64_in _ (by omega)))<|S.qu (Z.bd [0,1] dh U U U U U U)<|S.s<|D.st 0 ay U U U U U U U U λ_=>US.nil<|UQ.aI<|?_
    refine S.kY (_,_) ⟨rfl,rfl,rfl,rfl,rfl,rfl,trivial⟩ (.refl _) (by unfold yV at hsw;(repeat' split at hsw);all_goals first|omega|(cases hsw;exact⟨by rfl,by rfl⟩))
    refine S.rg<|Q.bi U U U<|Q.as U<|Q.nt<|?_
    refine S.cE U (λKM=>?_) (λKM=>?_)
    refine S.rg<|Q.mv U<|Q.mv U<|S.qu (Z.add (r:=((2*n+1:Nat):Int)) U U (IntWalk.i64_in _ (by omega)))<|S.qu (Z.ia jf U U (by omega) (by assumption) (by rfl))<|?_
    refine S.qu (Z.lF L6 U)<|S.qu (Z.cv Tryz.underlying2 U (IntWalk.i64_in _ (by omega)) (by rw[Tryz.underlying5];rfl))<|?_
    refine S.qu (Z.sub U U (IntWalk.i64_in _ (by omega)))<|S.qu (Z.bd [0,1] dh U U U U U U)<|S.s<|D.st 0 ay U U U U U U U U λ_=>US.nil<|UQ.aI<|?_
    refine S.kY (_,_) ⟨rfl,rfl,rfl,rfl,rfl,rfl,trivial⟩ (.refl _) (by unfold yV at hsw;(repeat' split at hsw);all_goals first|omega|(cases hsw;exact⟨by rfl,by rfl⟩))
    refine Q.rg<|Q.bi U U U<|Q.as U<|Q.nt<|?_
    refine S.cE U (λZn=>?_) (λZn=>?_)
    refine S.rg<|Q.mv U<|Q.mv U<|S.qu (Z.add (r:=((2*n+1:Nat):Int)) U U (IntWalk.i64_in _ (by omega)))<|S.qu (Z.ia jf U U (by omega) (by assumption) (by rfl))<|?_
    refine S.qu (Z.lF L6 U)<|Q.bi U U U<|S.qu (Z.cv Tryz.underlying2 U (IntWalk.i64_in _ (by omega)) (by rw[Tryz.underlying5];rfl))<|?_
    refine S.qu (Z.sub U U (IntWalk.i64_in _ (by omega)))<|S.qu (Z.bd [0,1] dh U U U U U U)<|S.s<|D.st 0 ay U U U U U U U U λ_=>US.nil<|UQ.aI<|?_
    refine S.kY (_,_) ⟨rfl,rfl,rfl,rfl,rfl,rfl,trivial⟩ (.refl _) (by unfold yV at hsw;(repeat' split at hsw);all_goals first|omega|(cases hsw;exact⟨by rfl,by rfl⟩))
    refine S.sq<|Q.rg<|Q.bi U U U<|Q.as U<|Q.nt<|?_
    refine S.cE U (λWp=>?_) (λWp=>?_)
    refine UW.skip<|UQ.then<|S.cT U (cZ (by omega))<|Q.rg<|Q.mv U<|Q.mv U<|Q.mv U<|S.qu (Z.iy jf U)<|Q.mv U<|S.qu (Z.add (r:=((2*n+3:Nat):Int)) U U (IntWalk.i64_in _ (by omega)))<|?_
    refine S.qu (Z.eq (u':=.v (.int .i64 ((min c.length (2*n+3):Nat):Int))) (Z.min U U) (by rw[BM];congr 2;split<;>omega)) ?_
    refine S.qu (Z.eq (u':=xH ((c.take (min c.length (2*n+3))).drop (2*n))) (Z.WB jf U (EP _) (.both U U) (by omega) (by omega) U) (LC _ _ _))<|S.qu (Z.call U U (λ_=>CP _ (hc.cut _ _) _))<|S.qu (Z.bd [0,2] dh U U U U U U)<|S.s<|D.st 0 ay U U U U U U U U λ_=>Q.nt<|Q.rg<|Q.fa qZ U<|Q.lc 0 fJ U U U<|S.qu (Z.call U U (λ_=>fo _ (Nat.le_trans (textOf_size _) (by decide)) _))<|Q.bi U U U<|Q.nt<|?_
    refine S.cD U (λhc95=>?_) (λhc95=>?_)
    refine S.rg<|Q.fa qZ U<|S.s<|D.st 0 fJ U U U U U U U U λ_=>US.nil<|UQ.aI<|?_
    refine S.kY (_,_) ⟨rfl,rfl,rfl,rfl,rfl,rfl,trivial⟩ (.refl _) (by unfold yV at hsw;(repeat' split at hsw);all_goals first|omega|(cases hsw;exact⟨by rfl,by rfl⟩))
    refine UW.skip<|UQ.aI<|?_
    refine S.kY (_,_) ⟨rfl,rfl,rfl,rfl,rfl,rfl,trivial⟩ (.refl _) (by unfold yV at hsw;(repeat' split at hsw);all_goals first|omega|(cases hsw;exact⟨by rfl,by rfl⟩))
    refine S.rg<|Q.bi U U U<|Q.as U<|Q.nt<|?_
    refine S.cE U (λWp=>?_) (λWp=>?_)
    refine Q.rg<|Q.mv U<|Q.mv U<|Q.mv U<|S.qu (Z.iy jf U)<|Q.mv U<|S.qu (Z.add (r:=((2*n+3:Nat):Int)) U U (IntWalk.i64_in _ (by omega)))<|?_
    refine S.qu (Z.eq (u':=.v (.int .i64 ((min c.length (2*n+3):Nat):Int))) (Z.min U U) (by rw[BM];congr 2;split<;>omega)) ?_
    refine S.qu (Z.eq (u':=xH ((c.take (min c.length (2*n+3))).drop (2*n))) (Z.WB jf U (EP _) (.both U U) (by omega) (by omega) U) (LC _ _ _))<|S.qu (Z.call U U (λ_=>CP _ (hc.cut _ _) _))<|S.qu (Z.bd [0,2] dh U U U U U U)<|S.s<|D.st 0 ay U U U U U U U U λ_=>Q.nt<|Q.rg<|Q.fa qZ U<|Q.lc 0 fJ U U U<|S.qu (Z.call U U (λ_=>fo _ (Nat.le_trans (textOf_size _) (by decide)) _))<|Q.bi U U U<|Q.nt<|?_
    refine S.cD U (λhc95=>?_) (λhc95=>?_)
    refine S.rg<|Q.fa qZ U<|S.s<|D.st 0 fJ U U U U U U U U λ_=>US.nil<|UQ.aI<|?_
    refine S.kY (_,_) ⟨rfl,rfl,rfl,rfl,rfl,rfl,trivial⟩ (.refl _) (by unfold yV at hsw;(repeat' split at hsw);all_goals first|omega|(cases hsw;exact⟨by rfl,by rfl⟩))
    refine UW.skip<|UQ.aI<|?_
    refine S.kY (_,_) ⟨rfl,rfl,rfl,rfl,rfl,rfl,trivial⟩ (.refl _) (by unfold yV at hsw;(repeat' split at hsw);all_goals first|omega|(cases hsw;exact⟨by rfl,by rfl⟩))
    refine Q.rg<|Q.bi U U U<|Q.as U<|Q.nt<|?_
    refine S.cE U (λZo=>?_) (λZo=>?_)
    refine Q.rg<|Q.mv U<|Q.mv U<|S.qu (Z.Co bR U)<|Q.mv U<|S.qu (Z.eq (u':=.v (.int .i64 ((l.length-j6 b1 l:Nat):Int))) (Z.sub U U (IntWalk.i64_in _ (by omega))) (by congr 2;omega))<|?_
    refine S.qu (Z.zY bR U (.hi U) (by omega) (by omega))<|Q.as U<|Q.nt<|S.rg<|Q.mv U<|S.qu (Z.bd [0,4] dh U U U U U U)<|S.s<|D.st 0 ay U U U U U U U U λ_=>US.nil<|UQ.aI<|?_
    refine S.kY (_,_) ⟨rfl,rfl,rfl,rfl,rfl,rfl,trivial⟩ (.refl _) (by unfold yV at hsw;(repeat' split at hsw);all_goals first|omega|(cases hsw;exact⟨by rfl,by rfl⟩))
    refine S.sq<|Q.rg<|Q.bi U U U<|Q.as U<|Q.nt<|?_
    refine S.cE U (λIu=>?_) (λIu=>?_)
    refine UW.skip<|UQ.then<|S.cT U (cZ (by omega))<|Q.rg<|Q.mv U<|Q.mv U<|S.qu (Z.Co bR U)<|Q.mv U<|S.qu (Z.eq (u':=.v (.int .i64 ((l.length-j6 b1 l:Nat):Int))) (Z.sub U U (IntWalk.i64_in _ (by omega))) (by congr 2;omega))<|?_
    refine S.qu (Z.zY bR U (.hi U) (by omega) (by omega))<|Q.as U<|Q.nt<|Q.rg<|S.qu (Z.bd [0] dh U U U U U U)<|S.s<|D.st 0 ay U U U U U U U U λ_=>Q.nt<|Q.rg<|Q.as U<|Q.nt<|UW.block<|?_
    rotate_left
    refine Q.rg<|Q.bi U U U<|Q.as U<|Q.nt<|?_
    refine S.cE U (λIu=>?_) (λIu=>?_)
    refine UW.skip<|UQ.then<|S.cT U (cZ (by omega))<|Q.rg<|Q.mv U<|Q.mv U<|S.qu (Z.Co bR U)<|Q.mv U<|S.qu (Z.eq (u':=.v (.int .i64 ((l.length-j6 b1 l:Nat):Int))) (Z.sub U U (IntWalk.i64_in _ (by omega))) (by congr 2;omega))<|?_
    refine S.qu (Z.zY bR U (.hi U) (by omega) (by omega))<|Q.as U<|Q.nt<|Q.rg<|S.qu (Z.bd [0] dh U U U U U U)<|S.s<|D.st 0 ay U U U U U U U U λ_=>Q.nt<|Q.rg<|Q.as U<|Q.nt<|UW.block<|?_
    rotate_left
    refine S.rg<|Q.bi U U U<|Q.as U<|Q.nt<|?_
    refine S.cE U (λIu=>?_) (λIu=>?_)
    refine Q.rg<|Q.mv U<|Q.mv U<|S.qu (Z.Co bR U)<|Q.mv U<|S.qu (Z.eq (u':=.v (.int .i64 ((l.length-j6 b1 l:Nat):Int))) (Z.sub U U (IntWalk.i64_in _ (by omega))) (by congr 2;omega))<|?_
    refine S.qu (Z.zY bR U (.hi U) (by omega) (by omega))<|Q.as U<|Q.nt<|Q.rg<|S.qu (Z.bd [0] dh U U U U U U)<|S.s<|D.st 0 ay U U U U U U U U λ_=>Q.nt<|Q.rg<|Q.as U<|Q.nt<|UW.block<|?_
    rotate_left
    refine UW.skip<|UQ.aI<|?_
    refine S.kY (_,_) ⟨rfl,rfl,rfl,rfl,rfl,rfl,trivial⟩ (.refl _) (by unfold yV at hsw;(repeat' split at hsw);all_goals first|omega|(cases hsw;exact⟨by rfl,by rfl⟩))
    refine S.rg<|Q.mv U<|S.qu (Z.bg 0 ay U U (ak _))<|S.qu (Z.bl iw U U (by intro cs h;cases List.mem_singleton.1 h;exact⟨by exact aH _,by exact ak _⟩))<|?_
    refine S.dd<|D.ap 1 iw U U (by omega) U (.sl (by intro cs h;cases List.mem_singleton.1 h;exact ak _)) (by(simp;omega)) hse λX3=>?_
    refine S.eq 147 (u:=.own X3 0 (m+1) 5) (u':=.own X3 0 (lK c (n+1)).length 5) (by rw[hsl])<|?_
    refine Q.as U<|US.nil<|UQ.aI<|UQ.then<|S.rg<|Q.mv U<|S.qu (Z.add (r:=((2*(n+1):Nat):Int)) U U (IntWalk.i64_in _ (by omega)))<|Q.as U<|US.nil<|?_
    refine S.back (_,_) ⟨rfl,rfl,rfl,rfl,rfl,trivial⟩ (by repeat (first|exact List.Sublist.refl _|refine .cons_cons _ ?_|refine .cons _ ?_)) (by omega) (by omega)
   ·refine S.loop (λq:Nat=>[(9,.v (.int .i64 (q:Int))),(7,.sl (bE (cu b1 l))),(8,.ptr p8 0),(3,.own id 0 (l.length-j6 b1 l-0) 5),(5,.v (.int .i64 ((2*n:Nat):Int))),(4,strs ve),(0,xH c),(2,.ptr p2 0)]) (λq=>[(p8,.box 27 (aN (lJ b1 (cu b1 l) q))),(id,.row 27 5 (bE l)),(p2,.box 27 (aN zeroV))]) (λq=>q<=(cu b1 l).length) (λq=>(cu b1 l).length-q) 0 (Nat.zero_le _) ⟨rfl,rfl,rfl,rfl,rfl,rfl,rfl,rfl,trivial⟩ (.refl _)<|?_
    rintro q hq
    have Qi:=aS (cu b1 l)
    by_cases X4:q<(cu b1 l).length
    ·have hF:=sQ b1 (cu b1 l) WJ q (by omega)
     have hKs:=(sP b1 (cu b1 l) WJ q).2.2.2.1
     have Yk:=BD b1 q FR
     have hki:=xz b1 q FR
     have hgv:=zD (cu b1 l) q X4
     refine S.sq<|Q.rg<|Q.mv U<|Q.mv U<|S.qu (Z.iy bR U)<|Q.bi U U U<|Q.nt<|S.cT U (decide_eq_true (by omega))<|UW.skip<|UQ.then<|S.sq<|UW.block<|?_
     refine' UW.dC (by kernel_rfl) [0,0,0,0,8,28,60,124,252,0,512,2044,4092,8190,16382,0,0,98304,229376,524287,1048575] [some 124,some 125,some 126,some 127,some 128,some 129,some 130,some 131,some 132,some 133,some 134,some 135,some 136,some 137,some 138,some 139,some 140,some 141,some 142,some 143,none] [some (124,_),some (125,_),some (126,_),some (127,_),some (128,_),some (129,_),some (130,_),some (131,_),some (132,_),some (133,_),some (134,_),some (135,_),some (136,_),some (137,_),some (138,_),some (139,_),some (140,_),some (141,_),some (142,_),some (143,_),none] [20] [0,6,14,18] U (by decide) (by decide) (I.held (by decide) U U ?fG (I.free (by decide) U U ?fH (I.free (by decide) U U ?iL (I.free (by decide) U U ?jF (I.free (by decide) U U ?jG (I.free (by decide) U U ?mV (I.held (by decide) U U ?mW (I.free (by decide) U U ?uI (I.free (by decide) U U ?uJ (I.free (by decide) U U ?uK (I.free (by decide) U U ?vW (I.free (by decide) U U ?vX (I.free (by decide) U U ?vY (I.free (by decide) U U ?vZ (I.held (by decide) U U ?wh (I.free (by decide) U U ?wm (I.free (by decide) U U ?wo (I.free (by decide) U U ?wu (I.held (by decide) U U ?wy (I.free (by decide) U U ?wz (I.skip I.nil))))))))))))))))))))) ?lG
     case fG=>exact Z.bg 0 ay rfl rfl (ak _)
     case fH=>(intro _;exact Z.mv rfl)
     case iL=>(intro _;exact Z.mv rfl)
     case jF=>(intro _;exact Z.mv rfl)
     case jG=>(intro _;exact Z.add (r:=((2*n+1:Nat):Int)) rfl rfl (IntWalk.i64_in _ (by omega)))
     case mV=>(intro _;exact Z.ia jf rfl rfl (by omega) hg1 rfl)
     case mW=>exact Z.lF L6 rfl
     case uI=>(intro _;exact Z.eq (u':=.v (.int .u8 (b1.tdiv 4))) (Z.bi rfl rfl rfl) (by congr 2;exact IntWalk.u8_in _ (by omega)))
     case uJ=>(intro _;exact Z.cv Tryz.underlying3 rfl (IntWalk.i64_in _ (by omega)) (by rw[Tryz.underlying5];rfl))
     case uK=>(intro _;exact Z.mv rfl)
     case vW=>(intro _;exact Z.mul rfl rfl (IntWalk.i64_in _ (by omega)))
     case vX=>(intro _;exact Z.add rfl rfl (IntWalk.i64_in _ (by omega)))
     case vY=>(intro _;exact Z.eq (u':=.v (.int .i64 ((zh b1 q:Nat):Int))) (Z.bi rfl rfl rfl) (by rw[hki]))
     case vZ=>(intro _;exact Z.ia bS rfl rfl (by omega) (by assumption) (by rfl))
     case wh=>exact Z.lF fJ rfl
     case wm=>(intro _;exact Z.mv rfl)
     case wo=>(intro _;exact Z.mv rfl)
     case wu=>(intro _;exact Z.ia bR rfl rfl (by omega) (by assumption) (by exact ak _))
     case wy=>exact Z.Cn ay rfl (ak _)
     case wz=>(intro _;exact Z.eq (u':=.agg (aN (lJ b1 (cu b1 l) (q+1)))) (Z.call rfl rfl (λ_=>qp _ hF hKs _ _ _)) rfl)
     refine CH.aV U U<|D.l8 0 ay U U U U (by exact aH _) (ak _) (ak _) U λ_=>?_
     refine CH.nil<|?_
     simp only[app,bV]
     refine UQ.aI<|UQ.then<|S.rg<|Q.mv U<|S.qu (Z.add (r:=((q+1:Nat):Int)) U U (IntWalk.i64_in _ (by omega)))<|Q.as U<|US.nil<|?_
     refine S.back _ ⟨rfl,rfl,rfl,rfl,rfl,rfl,rfl,rfl,trivial⟩ (.refl _) (by omega) (by omega)
    ·have hqe:q=(cu b1 l).length:=by omega
     refine S.sq<|Q.rg<|Q.mv U<|Q.mv U<|S.qu (Z.iy bR U)<|Q.bi U U U<|Q.nt<|S.cF U (decide_eq_false (by omega))<|UW.exit<|UQ.pass<|UQ.pass<|UQ.here<|UQ.aI<|?_
     refine S.kY (_,_) ⟨rfl,rfl,rfl,rfl,rfl,rfl,trivial⟩ (.refl _) (by unfold yV at hsw;(repeat' split at hsw);all_goals first|omega|(cases hsw;exact⟨by rfl,by rw[hqe]⟩))
   ·refine S.loop (λq:Nat=>[(9,.v (.int .i64 (q:Int))),(7,.sl (bE (cu b1 l))),(8,.ptr p8 0),(3,.own id 0 (l.length-j6 b1 l-0) 5),(5,.v (.int .i64 ((2*n:Nat):Int))),(4,strs ve),(0,xH c),(2,.ptr p2 0)]) (λq=>[(p8,.box 27 (aN (lJ b1 (cu b1 l) q))),(id,.row 27 5 (bE l)),(p2,.box 27 (aN zeroV))]) (λq=>q<=(cu b1 l).length) (λq=>(cu b1 l).length-q) 0 (Nat.zero_le _) ⟨rfl,rfl,rfl,rfl,rfl,rfl,rfl,rfl,trivial⟩ (.refl _)<|?_
    rintro q hq
    have Qi:=aS (cu b1 l)
    by_cases X4:q<(cu b1 l).length
    ·have hF:=sQ b1 (cu b1 l) WJ q (by omega)
     have hKs:=(sP b1 (cu b1 l) WJ q).2.2.2.1
     have Yk:=BD b1 q FR
     have hki:=xz b1 q FR
     have hgv:=zD (cu b1 l) q X4
     refine S.sq<|Q.rg<|Q.mv U<|Q.mv U<|S.qu (Z.iy bR U)<|Q.bi U U U<|Q.nt<|S.cT U (decide_eq_true (by omega))<|UW.skip<|UQ.then<|S.sq<|UW.block<|?_
     refine' UW.dC (by kernel_rfl) [0,0,0,0,8,28,60,124,252,0,512,2044,4092,8190,16382,0,0,98304,229376,524287,1048575] [some 124,some 125,some 126,some 127,some 128,some 129,some 130,some 131,some 132,some 133,some 134,some 135,some 136,some 137,some 138,some 139,some 140,some 141,some 142,some 143,none] [some (124,_),some (125,_),some (126,_),some (127,_),some (128,_),some (129,_),some (130,_),some (131,_),some (132,_),some (133,_),some (134,_),some (135,_),some (136,_),some (137,_),some (138,_),some (139,_),some (140,_),some (141,_),some (142,_),some (143,_),none] [20] [0,6,14,18] U (by decide) (by decide) (I.held (by decide) U U ?kE (I.free (by decide) U U ?kF (I.free (by decide) U U ?mJ (I.free (by decide) U U ?mK (I.free (by decide) U U ?qo (I.free (by decide) U U ?pQ (I.held (by decide) U U ?pU (I.free (by decide) U U ?pV (I.free (by decide) U U ?ug (I.free (by decide) U U ?uh (I.free (by decide) U U ?wN (I.free (by decide) U U ?wO (I.free (by decide) U U ?wP (I.free (by decide) U U ?wQ (I.held (by decide) U U ?wR (I.free (by decide) U U ?wS (I.free (by decide) U U ?wT (I.free (by decide) U U ?wU (I.held (by decide) U U ?wV (I.free (by decide) U U ?wW (I.skip I.nil))))))))))))))))))))) ?xY
     case kE=>exact Z.bg 0 ay rfl rfl (ak _)
     case kF=>(intro _;exact Z.mv rfl)
     case mJ=>(intro _;exact Z.mv rfl)
     case mK=>(intro _;exact Z.mv rfl)
     case qo=>(intro _;exact Z.add (r:=((2*n+1:Nat):Int)) rfl rfl (IntWalk.i64_in _ (by omega)))
     case pQ=>(intro _;exact Z.ia jf rfl rfl (by omega) hg1 rfl)
     case pU=>exact Z.lF L6 rfl
     case pV=>(intro _;exact Z.eq (u':=.v (.int .u8 (b1.tdiv 4))) (Z.bi rfl rfl rfl) (by congr 2;exact IntWalk.u8_in _ (by omega)))
     case ug=>(intro _;exact Z.cv Tryz.underlying3 rfl (IntWalk.i64_in _ (by omega)) (by rw[Tryz.underlying5];rfl))
     case uh=>(intro _;exact Z.mv rfl)
     case wN=>(intro _;exact Z.mul rfl rfl (IntWalk.i64_in _ (by omega)))
     case wO=>(intro _;exact Z.add rfl rfl (IntWalk.i64_in _ (by omega)))
     case wP=>(intro _;exact Z.eq (u':=.v (.int .i64 ((zh b1 q:Nat):Int))) (Z.bi rfl rfl rfl) (by rw[hki]))
     case wQ=>(intro _;exact Z.ia bS rfl rfl (by omega) (by assumption) (by rfl))
     case wR=>exact Z.lF fJ rfl
     case wS=>(intro _;exact Z.mv rfl)
     case wT=>(intro _;exact Z.mv rfl)
     case wU=>(intro _;exact Z.ia bR rfl rfl (by omega) (by assumption) (by exact ak _))
     case wV=>exact Z.Cn ay rfl (ak _)
     case wW=>(intro _;exact Z.eq (u':=.agg (aN (lJ b1 (cu b1 l) (q+1)))) (Z.call rfl rfl (λ_=>qp _ hF hKs _ _ _)) rfl)
     refine CH.aV U U<|D.l8 0 ay U U U U (by exact aH _) (ak _) (ak _) U λ_=>?_
     refine CH.nil<|?_
     simp only[app,bV]
     refine UQ.aI<|UQ.then<|S.rg<|Q.mv U<|S.qu (Z.add (r:=((q+1:Nat):Int)) U U (IntWalk.i64_in _ (by omega)))<|Q.as U<|US.nil<|?_
     refine S.back _ ⟨rfl,rfl,rfl,rfl,rfl,rfl,rfl,rfl,trivial⟩ (.refl _) (by omega) (by omega)
    ·have hqe:q=(cu b1 l).length:=by omega
     refine S.sq<|Q.rg<|Q.mv U<|Q.mv U<|S.qu (Z.iy bR U)<|Q.bi U U U<|Q.nt<|S.cF U (decide_eq_false (by omega))<|UW.exit<|UQ.pass<|UQ.pass<|UQ.here<|UQ.aI<|?_
     refine S.kY (_,_) ⟨rfl,rfl,rfl,rfl,rfl,rfl,trivial⟩ (.refl _) (by unfold yV at hsw;(repeat' split at hsw);all_goals first|omega|(cases hsw;exact⟨by rfl,by rw[hqe]⟩))
   ·refine S.loop (λq:Nat=>[(9,.v (.int .i64 (q:Int))),(7,.sl (bE (cu b1 l))),(8,.ptr p8 0),(3,.own id 0 (l.length-j6 b1 l-0) 5),(5,.v (.int .i64 ((2*n:Nat):Int))),(4,strs ve),(0,xH c),(2,.ptr p2 0)]) (λq=>[(p8,.box 27 (aN (lJ b1 (cu b1 l) q))),(id,.row 27 5 (bE l)),(p2,.box 27 (aN zeroV))]) (λq=>q<=(cu b1 l).length) (λq=>(cu b1 l).length-q) 0 (Nat.zero_le _) ⟨rfl,rfl,rfl,rfl,rfl,rfl,rfl,rfl,trivial⟩ (.refl _)<|?_
    rintro q hq
    have Qi:=aS (cu b1 l)
    by_cases X4:q<(cu b1 l).length
    ·have hF:=sQ b1 (cu b1 l) WJ q (by omega)
     have hKs:=(sP b1 (cu b1 l) WJ q).2.2.2.1
     have Yk:=BD b1 q FR
     have hki:=xz b1 q FR
     have hgv:=zD (cu b1 l) q X4
     refine S.sq<|Q.rg<|Q.mv U<|Q.mv U<|S.qu (Z.iy bR U)<|Q.bi U U U<|Q.nt<|S.cT U (decide_eq_true (by omega))<|UW.skip<|UQ.then<|S.sq<|UW.block<|?_
     refine' UW.dC (by kernel_rfl) [0,0,0,0,8,28,60,124,252,0,512,2044,4092,8190,16382,0,0,98304,229376,524287,1048575] [some 124,some 125,some 126,some 127,some 128,some 129,some 130,some 131,some 132,some 133,some 134,some 135,some 136,some 137,some 138,some 139,some 140,some 141,some 142,some 143,none] [some (124,_),some (125,_),some (126,_),some (127,_),some (128,_),some (129,_),some (130,_),some (131,_),some (132,_),some (133,_),some (134,_),some (135,_),some (136,_),some (137,_),some (138,_),some (139,_),some (140,_),some (141,_),some (142,_),some (143,_),none] [20] [0,6,14,18] U (by decide) (by decide) (I.held (by decide) U U ?jH (I.free (by decide) U U ?jI (I.free (by decide) U U ?qf (I.free (by decide) U U ?uu (I.free (by decide) U U ?uw (I.free (by decide) U U ?uy (I.held (by decide) U U ?uz (I.free (by decide) U U ?uA (I.free (by decide) U U ?uB (I.free (by decide) U U ?Ar (I.free (by decide) U U ?vU (I.free (by decide) U U ?vV (I.free (by decide) U U ?Fg (I.free (by decide) U U ?Fh (I.held (by decide) U U ?Fj (I.free (by decide) U U ?Fp (I.free (by decide) U U ?Fq (I.free (by decide) U U ?Fs (I.held (by decide) U U ?Fu (I.free (by decide) U U ?Fv (I.skip I.nil))))))))))))))))))))) ?uC
     case jH=>exact Z.bg 0 ay rfl rfl (ak _)
     case jI=>(intro _;exact Z.mv rfl)
     case qf=>(intro _;exact Z.mv rfl)
     case uu=>(intro _;exact Z.mv rfl)
     case uw=>(intro _;exact Z.add (r:=((2*n+1:Nat):Int)) rfl rfl (IntWalk.i64_in _ (by omega)))
     case uy=>(intro _;exact Z.ia jf rfl rfl (by omega) hg1 rfl)
     case uz=>exact Z.lF L6 rfl
     case uA=>(intro _;exact Z.eq (u':=.v (.int .u8 (b1.tdiv 4))) (Z.bi rfl rfl rfl) (by congr 2;exact IntWalk.u8_in _ (by omega)))
     case uB=>(intro _;exact Z.cv Tryz.underlying3 rfl (IntWalk.i64_in _ (by omega)) (by rw[Tryz.underlying5];rfl))
     case Ar=>(intro _;exact Z.mv rfl)
     case vU=>(intro _;exact Z.mul rfl rfl (IntWalk.i64_in _ (by omega)))
     case vV=>(intro _;exact Z.add rfl rfl (IntWalk.i64_in _ (by omega)))
     case Fg=>(intro _;exact Z.eq (u':=.v (.int .i64 ((zh b1 q:Nat):Int))) (Z.bi rfl rfl rfl) (by rw[hki]))
     case Fh=>(intro _;exact Z.ia bS rfl rfl (by omega) (by assumption) (by rfl))
     case Fj=>exact Z.lF fJ rfl
     case Fp=>(intro _;exact Z.mv rfl)
     case Fq=>(intro _;exact Z.mv rfl)
     case Fs=>(intro _;exact Z.ia bR rfl rfl (by omega) (by assumption) (by exact ak _))
     case Fu=>exact Z.Cn ay rfl (ak _)
     case Fv=>(intro _;exact Z.eq (u':=.agg (aN (lJ b1 (cu b1 l) (q+1)))) (Z.call rfl rfl (λ_=>qp _ hF hKs _ _ _)) rfl)
     refine CH.aV U U<|D.l8 0 ay U U U U (by exact aH _) (ak _) (ak _) U λ_=>?_
     refine CH.nil<|?_
     simp only[app,bV]
     refine UQ.aI<|UQ.then<|S.rg<|Q.mv U<|S.qu (Z.add (r:=((q+1:Nat):Int)) U U (IntWalk.i64_in _ (by omega)))<|Q.as U<|US.nil<|?_
     refine S.back _ ⟨rfl,rfl,rfl,rfl,rfl,rfl,rfl,rfl,trivial⟩ (.refl _) (by omega) (by omega)
    ·have hqe:q=(cu b1 l).length:=by omega
     refine S.sq<|Q.rg<|Q.mv U<|Q.mv U<|S.qu (Z.iy bR U)<|Q.bi U U U<|Q.nt<|S.cF U (decide_eq_false (by omega))<|UW.exit<|UQ.pass<|UQ.pass<|UQ.here<|UQ.aI<|?_
     refine S.kY (_,_) ⟨rfl,rfl,rfl,rfl,rfl,rfl,trivial⟩ (.refl _) (by unfold yV at hsw;(repeat' split at hsw);all_goals first|omega|(cases hsw;exact⟨by rfl,by rw[hqe]⟩))
  ·focus
    refine S.sq<|Q.rg<|Q.mv U<|S.qu (Z.add U U (IntWalk.i64_in _ (by omega)))<|Q.mv U<|S.qu (Z.iy jf U)<|Q.bi U U U<|Q.mv U<|?_
    refine S.tD 16 (λhc16=>?_) (λhc16=>?_)
    rotate_left
    omega
    refine Q.on (Z.mv U)<|Q.on (Z.bi U U U)<|Q.pk U U<|Q.nt<|S.cF U (decide_eq_false (by omega))<|UW.exit<|UQ.pass<|UQ.pass<|UQ.here<|UQ.then<|Q.rg<|Q.mv U<|US.D9 148 0 (rs:=bE (lK c n)) U U (Nat.le_of_eq (by omega)) (by rw[List.drop_zero,<-hvl,List.take_length])<|?_
    refine S.qu (Z.bd [0,4] dh U U U U U U)<|S.s<|D.st 0 ay U U U U U U U U λ_=>Q.nt<|UW.ret<|S.bG (λhd=>di (k:=0) hd U U U bH bI)<|?_
    focus (rw[show valOf c=.mk 4 0 ⟨#[]⟩ [] (lK c n) from by unfold valOf;congr 2;omega];rfl;done)
 ·refine S.sq<|Q.rg<|Q.mv U<|S.qu (Z.add U U (IntWalk.i64_in _ (by omega)))<|Q.mv U<|S.qu (Z.iy jf U)<|Q.bi U U U<|Q.mv U<|?_
  refine S.tD 16 (λhc16=>?_) (λhc16=>?_)
  omega
  refine Q.of<|Q.of<|Q.pk U U<|Q.nt<|S.cF U U<|UW.exit<|UQ.pass<|UQ.pass<|UQ.here<|UQ.then<|Q.rg<|Q.mv U<|US.D9 148 0 (rs:=bE (lK c n)) U U (Nat.le_of_eq (by omega)) (by rw[List.drop_zero,<-hvl,List.take_length])<|?_
  refine S.qu (Z.bd [0,4] dh U U U U U U)<|S.s<|D.st 0 ay U U U U U U U U λ_=>Q.nt<|UW.ret<|S.bG (λhd=>di (k:=0) hd U U U bH bI)<|?_
  focus (rw[show valOf c=.mk 4 0 ⟨#[]⟩ [] (lK c n) from by unfold valOf;congr 2;omega];rfl;done)
def Good(d:Int)(x:V):Prop:=Fits x/\Tx x/\tK x<=d
theorem Nh{k n:Int}{t:ByteArray}{ks:List ByteArray}{vs:List V}{d:Int}(hd:0<=d)(h:∀v∈vs,tK v<=d):tK (.mk k n t ks vs)<=d+1:=by
 rw[tK]
 split
 ·rw[Cw,Mq _ (λc hc=>by obtain⟨x,_,rfl⟩:=List.mem_map.1 hc;exact Ei x)]
  have:=pW (r:=vs.map tK) (a:=d) (b:=0) hd (λc hc=>by obtain⟨x,hx,rfl⟩:=List.mem_map.1 hc;exact h x hx)
  omega
 ·omega
theorem FT{k n:Int}{t:ByteArray}{ks:List ByteArray}{vs:List V}{d:Int}(hd:0<=d)(h1:ks.length<=1000000)(h2:vs.length<=1000000)(h3:t.size<=4000000)(h4:∀s∈ks,s.size<=4000000)(h:∀v∈vs,Good d v):Good (d+1) (.mk k n t ks vs):=
 ⟨.mk _ _ _ _ _ h1 h2 λx hx=>(h x hx).1,.mk _ _ _ _ _ h3 h4 λx hx=>(h x hx).2.1,Nh hd λv hv=>(h v hv).2.2⟩
theorem Good.up{d d':Int}{x:V}(h:Good d x)(hd:d<=d'):Good d' x:=⟨h.1,h.2.1,by have:=h.2.2;omega⟩
theorem mh{k n:Int}{t:ByteArray}{d:Int}(hd:0<=d)(h3:t.size<=4000000)(hk:k<4):Good d (.mk k n t [] []):=
 ⟨.mk _ _ _ _ _ (by simp) (by simp) (by simp),.mk _ _ _ _ _ h3 (by simp) (by simp),by rw[tK,if_neg (by omega)];exact hd⟩
theorem yx{d:Int}(hd:0<=d):Good d zeroV:=mh hd (by decide) (by decide)
theorem Sy{x:V}{d:Int}(hd:0<=d)(h1:x.ks.length<=1000000)(h2:x.vs.length<=1000000)(h3:x.t.size<=4000000)(h4:∀s∈x.ks,s.size<=4000000)(h:∀v∈x.vs,Good d v):Good (d+1) x:=by
 obtain⟨k,n,t,ks,vs⟩:=x
 exact FT hd h1 h2 h3 h4 h
theorem Sz(x:V)(key:ByteArray)(y:V):(dE x key y).t=(dS x).t:=by unfold dE;split<;>rfl
theorem Px(b1:Int)(kids:List V):∀q,(lJ b1 kids q).t=⟨#[]⟩
 |0=>rfl
 |q+1=>by
  show(dE _ _ _).t=_
  rw[Sz]
  unfold dS
  split
  ·exact Px b1 kids q
  ·rfl
theorem Dx(b1:Int)(kids:List V)(d:Int)(hd:0<=d)(hk:∀x∈kids,Good d x):∀q,∀v∈(lJ b1 kids q).vs,Good d v
 |0=>by intro v h;cases h
 |q+1=>by
  intro v hv
  rcases qD hv with h|h
  ·have e:dS (lJ b1 kids q)=lJ b1 kids q\/dS (lJ b1 kids q)=.mk 5 0 ⟨#[]⟩ [] []:=by unfold dS;split;exact .inl U;exact .inr U
   rcases e with e|e
   ·rw[e] at h;exact Dx b1 kids d hd hk q v h
   ·rw[e] at h;cases h
  ·subst h
   by_cases hi:q<kids.length
   ·exact hk _ (jV hi)
   ·simp only[List.getD,List.getElem?_eq_none (Nat.le_of_not_lt hi)];exact yx hd
theorem Py(b0 b1:Int)(t:ByteArray)(l:List V)(d:Int)(hd:0<=d)(ht:t.size<=4000000)(hl:l.length<=1000)(h:∀x∈l,Good d x):Good (d+1) (yV b0 b1 t l).2:=by
 have hk:∀x∈cu b1 l,Good d x:=λx hx=>h x (List.mem_of_mem_drop hx)
 have hkl:(cu b1 l).length<=l.length:=by unfold cu;rw[List.length_drop];omega
 unfold yV
 repeat' split
 ·exact mh (by omega) (by decide) (by decide)
 ·exact mh (by omega) (by decide) (by decide)
 ·exact mh (by omega) (by decide) (by decide)
 ·exact mh (by omega) (by decide) (by decide)
 ·exact mh (by omega) ht (by decide)
 ·exact FT hd (by simp) (by omega) (by decide) (by simp) hk
 ·obtain⟨_,h1,h2,h3,_⟩:=sP b1 (cu b1 l) (λx hx=>(hk x hx).1) (cu b1 l).length
  show Good (d+1) (lJ b1 (cu b1 l) (cu b1 l).length)
  exact Sy hd (by omega) (by omega) (by rw[Px];decide) h3 (Dx b1 _ d hd hk _)
 ·exact yx (by omega)
theorem yz(c:List Int):∀n,n<=100->∀x∈lK c n,Good (n:Int) x
 |0,_=>by intro x h;cases h
 |n+1,hn=>by
  obtain⟨h1,_⟩:=zC c n (by omega)
  have ih:=yz c n (by omega)
  intro x hx
  rcases List.mem_append.1 hx with h|h
  ·exact(ih x (List.mem_of_mem_take h)).up (by omega)
  ·rw[List.mem_singleton.1 h]
   exact Py _ _ _ _ n (by omega) (Nat.le_trans (textOf_size _) (by decide)) (by omega) ih
theorem KN(c:List Int):Good 31 (valOf c):=by
 obtain⟨h1,_⟩:=zC c (min (c.length/2) 30) (by omega)
 have h2:=yz c (min (c.length/2) 30) (by omega)
 exact(FT (d:=((min (c.length/2) 30:Nat):Int)) (by omega) (by simp) (by omega) (by decide) (by simp) h2).up (by omega)
def pg(c:List Int)(b:Int):V:=
 if (valOf c).vs.length=0\/gN (valOf c)=false then zeroV else(valOf c).vs.getD (b.tmod ((valOf c).vs.length:Int)).toNat zeroV
theorem Dy(c:List Int)(b:Int)(hb:0<=b):pg c b=zeroV\/(pg c b∈(valOf c).vs/\gN (valOf c)=true):=by
 unfold pg
 split
 ·exact .inl U
 ·rename_i h
  rw[not_or] at h
  refine .inr ⟨jV ?_,by simpa using h.2⟩
  have h1:=Int.tmod_nonneg ((valOf c).vs.length:Int) hb
  have h2:=Int.tmod_lt_of_pos b (by omega:(0:Int)<((valOf c).vs.length:Int))
  omega
theorem KO(c:List Int)(b:Int)(hb:0<=b):Good 30 (pg c b):=by
 rcases Dy c b hb with h|⟨h,_⟩
 ·rw[h];exact yx (by decide)
 ·exact(yz c _ (by omega) _ h).up (by omega)
theorem Ni(c:List Int)(hc:BR c)(b:Int)(hb0:0<=b)(hb1:b<256)(H:Hp):F Tryz.prog 12 [xH c,.v (.int .u8 b)] H (bn H (.agg (aN (pg c b)))):=by
 have h0:(valOf c).vs.length=0\/gN (valOf c)=false->pg c b=zeroV:=λh=>by unfold pg;rw[if_pos h]
 have h1:¬((valOf c).vs.length=0\/gN (valOf c)=false)->pg c b=(valOf c).vs.getD (b.tmod ((valOf c).vs.length:Int)).toNat zeroV:=λh=>by unfold pg;rw[if_neg h]
 have hg:=KN c
 have hval:∀H,F Tryz.prog 26 [xH c] H (bn H (.agg (aN (valOf c)))):=Pw c hc
 generalize valOf c=x at*
 obtain⟨k,n,t,ks,vs⟩:=x
 simp only[Ah] at h0 h1
 have hvl:=aS vs
 by_cases hz:vs.length=0
 ·rw[h0 (.inl hz)]
  refine aA (n:=28) (H0:=H) (M:=[]) Tryz.func12 (by kernel_rfl) U (by rw[Tryz.ntmps12];rfl) .nil<|?_
  focus
   refine Q.rg<|S.dd<|D.al z27 U U U λp4=>Q.nt<|Q.rg<|Q.mv U<|S.qu (Z.call U U (λ_=>hval _))<|S.dd<|D.al z27 U U U λp5=>S.s<|D.st 0 ay U U U U U U U U λ_=>Q.nt<|S.sq<|Q.rg<|Q.fa bQ U<|Q.lc 0 dm U U U<|S.qu (Z.iy bR U)<|Q.bi U U U<|Q.mv U<|?_
   refine S.tE 12 (λyc=>?_) (λyc=>?_)
   rotate_left
   omega
   refine Q.of<|Q.of<|Q.of<|Q.pk U U<|Q.nt<|S.cT U U<|Q.rg<|S.qu (Z.bd [] dh U U U U U U)<|S.s<|D.st 1 ay U U U U U U U U λ_=>Q.nt<|UW.ret<|UQ.aj<|S.bG (λhd=>di (k:=1) hd U U U bH bI)<|?_
   rfl
 ·cases hr:gN (.mk k n t ks vs) with
  |false=>
   rw[h0 (.inr hr)]
   refine aA (n:=28) (H0:=H) (M:=[]) Tryz.func12 (by kernel_rfl) U (by rw[Tryz.ntmps12];rfl) .nil<|?_
   refine Q.rg<|S.dd<|D.al z27 U U U λp4=>Q.nt<|Q.rg<|Q.mv U<|S.qu (Z.call U U (λ_=>hval _))<|S.dd<|D.al z27 U U U λp5=>S.s<|D.st 0 ay U U U U U U U U λ_=>Q.nt<|S.sq<|Q.rg<|Q.fa bQ U<|Q.lc 0 dm U U U<|S.qu (Z.iy bR U)<|Q.bi U U U<|Q.mv U<|?_
   refine S.tE 12 (λyc=>?_) (λyc=>?_)
   omega
   refine Q.on (Z.bg 0 ay U U U)<|Q.on (Z.eq (Z.call U U (λ_=>yN _ hg.1 hg.2.1 _)) (by rw[hr]))<|?_
   refine Q.on (Z.not U)<|Q.pk U U<|Q.nt<|S.cT U U<|Q.rg<|S.qu (Z.bd [] dh U U U U U U)<|S.s<|D.st 1 ay U U U U U U U U λ_=>Q.nt<|UW.ret<|UQ.aj<|S.bG (λhd=>di (k:=1) hd U U U bH bI)<|?_
   rfl
  |true=>
   rw[h1 (by simp[hz,hr])]
   have hm0:=Int.tmod_nonneg (vs.length:Int) hb0
   have hm1:=Int.tmod_lt_of_pos b (by omega:(0:Int)<(vs.length:Int))
   have hkg:=zD vs (b.tmod (vs.length:Int)).toNat (by omega)
   refine aA (n:=28) (H0:=H) (M:=[]) Tryz.func12 (by kernel_rfl) U (by rw[Tryz.ntmps12];rfl) .nil<|?_
   refine Q.rg<|S.dd<|D.al z27 U U U λp4=>Q.nt<|Q.rg<|Q.mv U<|S.qu (Z.call U U (λ_=>hval _))<|S.dd<|D.al z27 U U U λp5=>S.s<|D.st 0 ay U U U U U U U U λ_=>Q.nt<|S.sq<|Q.rg<|Q.fa bQ U<|Q.lc 0 dm U U U<|S.qu (Z.iy bR U)<|Q.bi U U U<|Q.mv U<|?_
   refine S.tE 12 (λyc=>?_) (λyc=>?_)
   omega
   refine Q.on (Z.bg 0 ay U U U)<|Q.on (Z.eq (Z.call U U (λ_=>yN _ hg.1 hg.2.1 _)) (by rw[hr]))<|?_
   refine Q.on (Z.not U)<|Q.pk U U<|Q.nt<|S.cF U U<|UW.skip<|UQ.then<|S.sq<|?_
   refine' UW.dC (by kernel_rfl) [0,1,0,4,0,16,48,124,255,511,1023] [some 18,some 19,some 20,some 21,some 22,some 23,some 24,some 25,some 26,some 27,none] [some (18,_),some (19,_),some (20,_),some (21,_),some (22,_),some (23,_),some (24,_),some (25,_),some (26,_),some (27,_),none] [10] [1,5,9] U (by decide) (by decide) (I.free (by decide) U U ?fG (I.held (by decide) U U ?fH (I.free (by decide) U U ?iL (I.free (by decide) U U ?jF (I.free (by decide) U U ?jG (I.held (by decide) U U ?mV (I.free (by decide) U U ?mW (I.free (by decide) U U ?uI (I.free (by decide) U U ?uJ (I.held (by decide) U U ?uK (I.skip I.nil))))))))))) ?lG
   case fG=>(intro _;exact Z.fa bQ rfl)
   case fH=>exact Z.dQ 0 dm rfl rfl rfl
   case iL=>(intro _;exact Z.mv rfl)
   case jF=>(intro _;exact Z.cv Tryz.underlying3 rfl (IntWalk.i64_in _ (by omega)) (by rw[Tryz.underlying5];rfl))
   case jG=>(intro _;exact Z.fa bQ rfl)
   case mV=>exact Z.dQ 0 dm rfl rfl rfl
   case mW=>(intro _;exact Z.iy bR rfl)
   case uI=>(intro _;exact Z.bi (vr:=.int .i64 (b.tmod (vs.length:Int))) rfl rfl (by rw[hvl];exact if_neg (by omega)))
   case uJ=>(intro _;exact Z.ia bR rfl rfl (by omega) (by assumption) (by exact ak _))
   case uK=>exact Z.Cn ay rfl (ak _)
   refine CH.aV U U<|D.l8 1 ay U U U U (by exact aH _) (ak _) U U λ_=>?_
   refine CH.nil<|?_
   simp only[app,bV]
   refine UQ.then<|UW.ret<|S.bG (λhd=>di (k:=1) hd U U U bH (by rw[ak];exact bI))<|?_
   rfl
theorem pq:∀a b:List V,fD (a++b)=fD a+fD b
 |[],b=>by show fD b=0+fD b;omega
 |x::r,b=>by
  have:=pq r b
  show fD (x::(r++b))=_
  rw[fD,fD,this];omega
theorem vv(l:List V)(n:Nat):fD (l.take n)+fD (l.drop n)=fD l:=by rw[<-pq,List.take_append_drop]
theorem Iw:∀(l:List V) (i:Nat) (y:V),fD (l.set i y)<=fD l+qz y+1
 |[],i,y=>by show fD []<=_;omega
 |x::r,0,y=>by show fD (y::r)<=_;rw[fD,fD];omega
 |x::r,i+1,y=>by have:=Iw r i y;show fD (x::r.set i y)<=_;rw[fD,fD];omega
theorem FU:∀a b:List ByteArray,zy (a++b)=zy a+zy b
 |[],b=>by show zy b=0+zy b;omega
 |x::r,b=>by
  have:=FU r b
  show zy (x::(r++b))=_
  rw[zy,zy,this];omega
theorem Dz(l:List ByteArray)(n:Nat):zy (l.take n)+zy (l.drop n)=zy l:=by rw[<-FU,List.take_append_drop]
theorem Pz(x:V):qz x=30+6*x.t.size+zy x.ks+fD x.vs:=by obtain⟨k,n,t,ks,vs⟩:=x;exact kL ..
theorem Wq(x:V):qz (dS x)<=qz x:=by
 unfold dS
 split
 ·omega
 ·rw[kL,Pz x];show 30+6*0+0+0<=_;omega
theorem Ws(x:V):qz (cutV x)<=qz x:=by
 unfold cutV
 rw[kL,Pz x]
 have h1:=Dz x.ks (min x.ks.length x.vs.length)
 have h2:=vv x.vs (min x.ks.length x.vs.length)
 omega
theorem SA(l:List ByteArray)(i:Nat)(s:ByteArray):zy (eP l i s)=zy l+6*s.size+4:=by
 unfold eP
 have:=Dz l i
 rw[FU,zy];omega
theorem PD(l:List V)(i:Nat)(y:V):fD (eP l i y)=fD l+qz y+1:=by
 unfold eP
 have:=vv l i
 rw[pq,fD];omega
theorem LD(x:V)(key:ByteArray)(y:V):qz (dE x key y)<=qz x+6*key.size+qz y+5:=by
 have h1:=Wq x
 have h2:=Ws (dS x)
 rw[Pz (cutV (dS x))] at h2
 have h3:(cutV (dS x)).t=(dS x).t:=rfl
 rw[h3] at h2
 unfold dE
 split
 ·rename_i i _
  rw[kL]
  have:=Iw (cutV (dS x)).vs i y
  omega
 ·rw[kL,SA,PD]
  omega
theorem iZ.n0{x:V}(h:iZ x): -9223372036854775808<=x.n/\x.n<=9223372036854775807:=by cases h with|mk k n t ks vs h0 h1 h=>exact⟨h0,h1⟩
theorem iZ.kid{x:V}(h:iZ x){v:V}(hv:v∈x.vs):iZ v:=by cases h with|mk k n t ks vs h0 h1 h=>exact h v hv
theorem lL{k n:Int}{t:ByteArray}{ks:List ByteArray}{vs:List V}(h: -9223372036854775808<=n/\n<=9223372036854775807)(hv:∀x∈vs,iZ x):iZ (.mk k n t ks vs):=.mk _ _ _ _ _ h.1 h.2 hv
theorem SB{x:V}(h:iZ x):iZ (dS x):=by
 unfold dS
 split
 ·exact h
 ·exact lL (by decide) (λx hx=>by cases hx)
theorem Iy{x:V}{y:V}(hx:iZ x)(hy:iZ y)(key:ByteArray):iZ (dE x key y):=by
 have h1:=SB hx
 have e:(dE x key y).n=(dS x).n:=by unfold dE;split<;>rfl
 have h2:iZ (.mk (dE x key y).k (dE x key y).n (dE x key y).t (dE x key y).ks (dE x key y).vs):=lL (by rw[e];exact h1.n0) (λv hv=>(qD hv).elim (λh=>h1.kid h) (λh=>h▸hy))
 generalize dE x key y=w at h2
 obtain⟨k,n,t,ks,vs⟩:=w
 exact h2
structure Wt(N:Nat)(x:V):Prop where
 num:iZ x
 wt:qz x<=N
theorem Wt.up{N ae:Nat}{x:V}(h:Wt N x)(hm:N<=ae):Wt ae x:=⟨h.num,by have:=h.wt;omega⟩
theorem Wt.with{N ae:Nat}{x y:V}(hx:Wt N x)(hy:Wt ae y){key:ByteArray}{K:Nat}(hk:key.size<=K):Wt (N+ae+6*K+5) (dE x key y):=
 ⟨Iy hx.num hy.num key,by have:=LD x key y;have:=hx.wt;have:=hy.wt;omega⟩
theorem Wt.leaf{k n:Int}{t:ByteArray}{N:Nat}(h: -9223372036854775808<=n/\n<=9223372036854775807)(ht:30+6*t.size<=N):Wt N (.mk k n t [] []):=
 ⟨lL h (λx hx=>by cases hx),by rw[kL];show 30+6*t.size+0+0<=_;omega⟩
theorem PE:∀s∈ve,s.size<=10:=by decide
theorem SC(i:Nat):(ve.getD i ⟨#[]⟩).size<=10:=by
 by_cases hi:i<ve.length
 ·exact PE _ (jV hi)
 ·simp only[List.getD,List.getElem?_eq_none (Nat.le_of_not_lt hi)];decide
theorem LF(b1:Int)(kids:List V)(hk:∀x∈kids,iZ x):∀q,q<=kids.length->Wt (30+70*q+fD (kids.take q)) (lJ b1 kids q)
 |0,_=> .leaf (by decide) (by show 30+6*0<=_;omega)
 |q+1,hq=>by
  have ih:=LF b1 kids hk q (by omega)
  have hy:Wt (qz (kids.getD q zeroV)) (kids.getD q zeroV):=⟨hk _ (jV (by omega)),Nat.le_refl _⟩
  refine(ih.with hy (SC (zh b1 q))).up<|?_
  rw[List.take_add_one,List.getElem?_eq_getElem (by omega:q<kids.length),pq]
  have e:kids.getD q zeroV=kids[q]:=getD_at (by omega)
  rw[e]
  show _<=30+70*(q+1)+(fD (kids.take q)+fD [kids[q]])
  rw[fD,fD]
  omega
theorem Wu(b0 b1:Int)(hb0:0<=b1)(hb1:b1<=255)(t:ByteArray)(ht:t.size<=12)(l:List V)(hl:∀x∈l,iZ x):iZ (yV b0 b1 t l).2/\fD (l.take (yV b0 b1 t l).1)+qz (yV b0 b1 t l).2<=fD l+350:=by
 have hk:∀x∈cu b1 l,iZ x:=λx hx=>hl x (List.mem_of_mem_drop hx)
 have h4:(b1.tmod 4).toNat<4:=by have:=Int.tmod_lt_of_pos b1 (by decide:(0:Int)<4);omega
 have hkl:(cu b1 l).length<=4:=by unfold cu j6;rw[List.length_drop];omega
 have h20:=Int.tmod_nonneg 2 hb0
 have h21:=Int.tmod_lt_of_pos b1 (by decide:(0:Int)<2)
 have ha:fD (l.take l.length)=fD l:=by rw[List.take_length]
 have hs:fD (l.take (l.length-j6 b1 l))+fD (cu b1 l)=fD l:=vv l _
 have leaf:∀(k n:Int) (u:ByteArray),-9223372036854775808<=n/\n<=9223372036854775807->u.size<=12->iZ (.mk k n u [] [])/\fD (l.take l.length)+qz (.mk k n u [] [])<=fD l+350:=λk n u h1 h2=>by
  have h3:Wt (30+6*u.size) (.mk k n u [] []):=.leaf h1 (Nat.le_refl _)
  have:=h3.wt
  exact⟨h3.num,by omega⟩
 unfold yV
 repeat' split
 ·exact leaf _ _ _ (by omega) (by decide)
 ·exact leaf _ _ _ (by omega) (by decide)
 ·exact leaf _ _ _ (by omega) (by decide)
 ·exact leaf _ _ _ (by decide) (by decide)
 ·exact leaf _ _ _ (by decide) ht
 ·refine⟨lL (by decide) hk,?_⟩
  show fD (l.take (l.length-j6 b1 l))+qz _<=_
  rw[kL]
  show _+(30+6*0+0+_)<=_
  omega
 ·have:=LF b1 (cu b1 l) hk (cu b1 l).length (Nat.le_refl _)
  refine⟨this.num,?_⟩
  have h5:=this.wt
  rw[List.take_length] at h5
  show fD (l.take (l.length-j6 b1 l))+qz (lJ b1 (cu b1 l) (cu b1 l).length)<=_
  omega
 ·exact leaf _ _ _ (by decide) (by decide)
theorem Iz{c:List Int}(hc:BR c)(i:Nat):0<=c.getD i 0/\c.getD i 0<=255:=by
 by_cases hi:i<c.length
 ·have:=hc _ (jV (z:=(0:Int)) hi);omega
 ·simp only[List.getD,List.getElem?_eq_none (Nat.le_of_not_lt hi)];decide
theorem KP(c:List Int)(n:Nat):(textOf ((c.take (min c.length (2*n+3))).drop (2*n))).size<=12:=by
 have:=qw ((c.take (min c.length (2*n+3))).drop (2*n)) (min ((c.take (min c.length (2*n+3))).drop (2*n)).length 40)
 have hl:((c.take (min c.length (2*n+3))).drop (2*n)).length<=3:=by rw[List.length_drop,List.length_take];omega
 unfold textOf
 omega
theorem LG{c:List Int}(hc:BR c):∀n,(∀x∈lK c n,iZ x)/\fD (lK c n)<=351*n
 |0=>⟨λx (hx:x∈([]:List V))=>absurd hx (List.not_mem_nil),Nat.zero_le _⟩
 |n+1=>by
  obtain⟨h1,h2⟩:=LG hc n
  obtain⟨h3,h4⟩:=Wu (c.getD (2*n) 0) (c.getD (2*n+1) 0) (Iz hc _).1 (Iz hc _).2 (textOf ((c.take (min c.length (2*n+3))).drop (2*n))) (KP c n) (lK c n) h1
  constructor
  ·intro x hx
   rcases List.mem_append.1 hx with h|h
   ·exact h1 x (List.mem_of_mem_take h)
   ·rw[List.mem_singleton.1 h];exact h3
  ·show fD (_++[_])<=_
   rw[pq,fD,fD]
   omega
theorem PG{c:List Int}(hc:BR c)(b:Int)(hb:0<=b):Wt 10600 (pg c b):=by
 rcases Dy c b hb with h|⟨h,_⟩
 ·rw[h];exact .leaf (by decide) (by decide)
 ·obtain⟨h1,h2⟩:=LG hc (min (c.length/2) 30)
  have h3:=AL h
  have h4:(valOf c).vs=lK c (min (c.length/2) 30):=rfl
  rw[h4] at h3 h
  exact⟨h1 _ h,by omega⟩
end Go.Proofs.YtbooeongacgnbaaGreatDoor
end
