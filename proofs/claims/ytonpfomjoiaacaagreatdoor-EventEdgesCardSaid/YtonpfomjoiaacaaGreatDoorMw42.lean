/- A part of the proof. -/
import Derived.Test.YtonpfomjoiaacaaGreatDoorMw41
set_option maxRecDepth 100000
set_option maxHeartbeats 4000000
set_option linter.unusedSectionVars false
set_option linter.unusedVariables false
set_option linter.unusedSimpArgs false
section
namespace Go.Proofs.YtonpfomjoiaacaaGreatDoor
open Go Go.iG Go.RowKit
def iB(k:Nat)(tw:Bool):List ByteArray:=if tw=true/\1<k then(Ex (λi=>(i:Int)) 0 k).set (k-1) (fq 0 0) else Ex (λi=>(i:Int)) 0 k
theorem De(k:Nat)(tw:Bool):(iB k tw).length=k:=by
 unfold iB;split
 ·rw[List.length_set,BL]
 ·exact BL ..
theorem Xd(k i:Nat)(hi:i<k):(Ex (λi=>(i:Int)) 0 k)[i]'(by rw[BL];exact hi)=fq (i:Int) 0:=by
 unfold Ex;simp
theorem UC{k:Nat}(hk:k<24)(tw:Bool):∀s∈iB k tw,s.size<=44/\jc s=true:=by
 have hf:∀s∈Ex (λi=>(i:Int)) 0 k,s.size<=44/\jc s=true:=λs hs=>by
  obtain⟨i,hi,rfl⟩:=List.mem_map.1 hs
  have:=List.mem_range.1 hi
  exact⟨by rw[l9];decide,qV ⟨Int.natCast_nonneg i,by show((i:Nat):Int)<256;omega⟩ ⟨by decide,by decide⟩⟩
 intro s hs
 unfold iB at hs
 split at hs
 ·rcases List.mem_or_eq_of_mem_set hs with h|rfl
  ·exact hf s h
  ·exact⟨by rw[l9];decide,qV ⟨by decide,by decide⟩ ⟨by decide,by decide⟩⟩
 ·exact hf s hs
def edgeOk(k:Nat)(tw:Bool):Bool:=decide (k<=20)&&!(tw&&decide (1<k))
theorem Xe{k:Nat}(hk:k<24)(tw:Bool):dI (iB k tw)=edgeOk k tw:=by
 have hl:=De k tw
 unfold edgeOk
 by_cases h20:k<=20
 ·rw[decide_eq_true h20,Bool.true_and]
  by_cases hd:tw=true/\1<k
  ·obtain⟨rfl,h1k⟩:=hd
   rw[decide_eq_true h1k]
   refine OC (i:=k-1) (by rw[De];omega) (.inr ⟨0,by omega,?_⟩)
   have e:iB k true=(Ex (λi=>(i:Int)) 0 k).set (k-1) (fq 0 0):=by unfold iB;rw[if_pos ⟨rfl,h1k⟩]
   rw[List.getElem_of_eq e,List.getElem_of_eq e,List.getElem_set_self,List.getElem_set_ne (by omega),Xd k 0 (by omega)]
   rfl
  ·have he:iB k tw=Ex (λi=>(i:Int)) 0 k:=by unfold iB;rw[if_neg hd]
   have ho:=(Hw (λi:Nat=>(i:Int)) 0 ⟨by decide,by decide⟩ k h20 (λi h=>by omega) (λi j _ _ h=>by omega)).1
   rw[he]
   rw[show Ex (λi=>(i:Int)) 0 k=(List.range k).map λi:Nat=>fq (i:Int) 0 from rfl,ho]
   cases tw with
   |false=>rfl
   |true=>rw[decide_eq_false (λh=>hd ⟨rfl,h⟩)];rfl
 ·rw[decide_eq_false h20,Bool.false_and]
  unfold dI
  rw[hl,decide_eq_false h20,Bool.false_and]
def sM:ByteArray:=⟨#[36,115,104,111,114,116]⟩
theorem UD:jB sM=false:=by kernel_rfl
theorem ab9{k:Nat}{tw:Bool}(h:¬k<=20):false=edgeOk k tw:=by unfold edgeOk;rw[decide_eq_false h,Bool.false_and]
theorem edge_f{k:Nat}{tw:Bool}(h:k<=20)(ht:tw=false):true=edgeOk k tw:=by unfold edgeOk;rw[decide_eq_true h,ht];rfl
theorem edge_1{k:Nat}{tw:Bool}(h:k<=20)(ht:tw=true)(h1:1<k):false=edgeOk k tw:=by unfold edgeOk;rw[decide_eq_true h,ht,decide_eq_true h1];rfl
theorem edge_0{k:Nat}{tw:Bool}(h:k<=20)(ht:tw=true)(h1:¬1<k):true=edgeOk k tw:=by unfold edgeOk;rw[decide_eq_true h,ht,decide_eq_false h1];rfl
theorem edge_b{k:Nat}{tw:Bool}(h:k<=20)(ht:tw=true):(!decide ((k:Int)>1))=edgeOk k tw:=by
 by_cases h1:1<k
 ·rw[<-edge_1 h ht h1,decide_eq_true (by omega)];rfl
 ·rw[<-edge_0 h ht h1,decide_eq_false (by omega)];rfl
theorem Rv(n:Int)(tw bL:Bool)(hn0:0<=n)(hn1:n<=255)(H:Hp)(hG:fA H):au Tryz.prog 4 [.v (.int .u8 n),.v (.bool tw),.v (.bool bL)] H (bB H (.v (.bool true))):=by
 obtain⟨k,hk⟩:∃k:Nat,n.tmod 24=(k:Int):=⟨_,(Int.toNat_of_nonneg (Int.tmod_nonneg 24 hn0)).symm⟩
 have hk24:k<24:=by have:=Int.tmod_lt_of_pos n (by decide:(0:Int)<24);omega
 have hf:∀j:Nat,(j:Int)<256->∀H,au Tryz.prog 23 [.v (.int .u8 (j:Int)),.v (.int .u8 0)] H (bB H (.v (.string (fq (j:Int) 0)))):=λj hj H=>yD _ _ ⟨by omega,hj⟩ ⟨by decide,by decide⟩ H
 have hel:=De k tw
 have hem:=UC hk24 tw
 have heo:=Xe hk24 tw
 have hsh:[sM].length<=24/\∀s∈[sM],s.size<=44/\jc s=true:=⟨by decide,λs h=>by rw[List.mem_singleton.1 h];exact⟨by decide,by kernel_rfl⟩⟩
 have hnil:([]:List ByteArray).length<=24/\∀s∈([]:List ByteArray),s.size<=44/\jc s=true:=⟨by simp,(λs h=>by cases h)⟩
 have hed:(iB k tw).length<=24/\∀s∈iB k tw,s.size<=44/\jc s=true:=⟨by omega,hem⟩
 have hrd:∀p:List ByteArray×List ByteArray,p=([],iB k tw)\/p=(iB k tw,[])->D9 (bV Ag ⟨#[]⟩ false p.1 p.2 0 0)/\D9 (bV Ag ⟨#[]⟩ false [sM] p.2 0 0)/\ma (bV Ag ⟨#[]⟩ false p.1 p.2 0 0)=edgeOk k tw/\ma (bV Ag ⟨#[]⟩ false [sM] p.2 0 0)=false/\p.1.length+p.2.length=k:=λp hp=>by
  have hx:dI [sM]=false:=by rw[Dc,UD]
  rcases hp with rfl|rfl
  ·refine⟨nU hnil hed ⟨by decide,by decide⟩ ⟨by decide,by decide⟩,nU hsh hed ⟨by decide,by decide⟩ ⟨by decide,by decide⟩,?_,?_,by simp[hel]⟩
   ·rw[lW,heo]
    simp[show oP Ag=true by kernel_rfl,show dI []=true by kernel_rfl]
   ·rw[lW,hx];simp
  ·refine⟨nU hed hnil ⟨by decide,by decide⟩ ⟨by decide,by decide⟩,nU hsh hnil ⟨by decide,by decide⟩ ⟨by decide,by decide⟩,?_,?_,by simp[hel]⟩
   ·rw[lW,heo]
    simp[show oP Ag=true by kernel_rfl,show dI []=true by kernel_rfl]
   ·rw[lW,hx];simp
 have mk:∀p:List ByteArray×List ByteArray,p=([],iB k tw)\/p=(iB k tw,[])->∀H,fA H->au Tryz.prog 24 [.agg (gZ (bV Ag ⟨#[]⟩ false p.1 p.2 0 0))] H (bB H (.agg (aC (aL (bV Ag ⟨#[]⟩ false p.1 p.2 0 0))))):=λp hp H h=>mg _ (hrd p hp).1.toSm H h
 have mk3:∀p:List ByteArray×List ByteArray,p=([],iB k tw)\/p=(iB k tw,[])->∀H,fA H->au Tryz.prog 24 [.agg (gZ (bV Ag ⟨#[]⟩ false [sM] p.2 0 0))] H (bB H (.agg (aC (aL (bV Ag ⟨#[]⟩ false [sM] p.2 0 0))))):=λp hp H h=>mg _ (hrd p hp).2.1.toSm H h
 have rd:∀p:List ByteArray×List ByteArray,p=([],iB k tw)\/p=(iB k tw,[])->∃y:EV,(edgeOk k tw=true->y.prev.length+y.bL.length=k/\y.prev.length<=24/\y.bL.length<=24)/\∀H,fA H->au Tryz.prog 15 [.agg (aC (aL (bV Ag ⟨#[]⟩ false p.1 p.2 0 0)))] H (bB H (.kX [.agg (gZ y),.v (.int .u16 (if edgeOk k tw=true then 0 else 15))])):=λp hp=>by
  obtain⟨h1,_,h2,_,h5⟩:=hrd p hp
  refine⟨(ic (aL (bV Ag ⟨#[]⟩ false p.1 p.2 0 0))).1,λhe=>?_,λH h=>?_⟩
  ·rw[qZ h1,h2,if_pos he]
   exact⟨h5,h1.prev.1,h1.bL.1⟩
  ·have h3:=iO _ (pG h1.make (fD _) h1).rw H h
   have h4:(ic (aL (bV Ag ⟨#[]⟩ false p.1 p.2 0 0))).2=if edgeOk k tw=true then 0 else 15:=by
    rw[qZ h1,h2]
    split<;>rfl
   rwa [h4] at h3
 have rd3:∀p:List ByteArray×List ByteArray,p=([],iB k tw)\/p=(iB k tw,[])->∀H,fA H->au Tryz.prog 15 [.agg (aC (aL (bV Ag ⟨#[]⟩ false [sM] p.2 0 0)))] H (bB H (.kX [.agg (gZ zeroE),.v (.int .u16 15)])):=λp hp H h=>by
  obtain⟨_,h1,_,h2,_⟩:=hrd p hp
  have h3:=iO _ (pG h1.make (fD _) h1).rw H h
  rw[qZ h1,h2,if_neg (by decide)] at h3
  exact h3
 clear hrd hsh hnil hed hem heo
 refine aF (n:=101) (H0:=H) (I:=[]) Tryz.func4 (by kernel_rfl) U (by rw[Tryz.ntmps4];rfl) .nil<|?_
 refine Q.rg<|Q.as U<|Q.nt<|Q.rg<|Q.mv U<|S.qu (Z.eq (u':=.v (.int .u8 (k:Int))) (Z.bi U U U) (by rw[hk]))<|?_
 refine S.qu (Z.cv Tryz.underlying3 U (IntWalk.i64_in _ (by omega)) (by rw[Tryz.underlying5];rfl))<|?_
 refine Q.as U<|Q.nt<|Q.rg<|Q.as U<|US.kZ 8 9 1 (by decide) U λid=>Q.nt<|S.sq<|Q.rg<|Q.as U<|Q.nt<|UW.block<|S.loop (λs:Nat×Nat=>[(9,.v (.int .i64 (s.1:Int))),(8,.own s.2 0 s.1 1),(7,.v (.int .i64 (k:Int))),(1,.v (.bool tw)),(2,.v (.bool bL))]) (λs=>[(s.2,.row 9 1 ((Ex (λi=>(i:Int)) 0 s.1).map encS))]) (λs=>s.1<=k) (λs=>k-s.1) (0,id) (Nat.zero_le _) ⟨rfl,rfl,rfl,rfl,rfl,trivial⟩ (.refl _)<|?_
 rintro⟨j,Xm⟩ hj
 simp only at hj
 simp only
 have hrl:=xK (λi=>(i:Int)) 0 j
 have hrs:=j5 (Ex (λi=>(i:Int)) 0 j)
 by_cases hjl:j<k
 ·refine S.sq<|Q.rg<|Q.mv U<|Q.mv U<|Q.bi U U U<|Q.nt<|S.cT U (decide_eq_true (by omega))<|UW.skip<|UQ.then<|S.sq<|UW.block<|S.rg<|Q.mv U<|Q.mv U<|S.qu (Z.cv Tryz.underlying5 U (IntWalk.u8_in _ (by omega)) (by rw[Tryz.underlying3];rfl))<|?_
  refine S.qu (Z.call U U (λH=>hf j (by omega) H))<|S.qu (Z.bl dQ U U (bz U))<|S.dd<|D.ap 0 dQ U U (by omega) U (.sl (kz U)) (by simp;omega) (Ig _ _ _) λp30=>?_
  refine Q.as U<|US.nil<|UQ.aB<|UQ.then<|S.rg<|Q.mv U<|S.qu (Z.add (r:=((j+1:Nat):Int)) U U (IntWalk.i64_in _ (by omega)))<|Q.as U<|US.nil<|?_
  refine S.back (j+1,_) ⟨rfl,rfl,rfl,rfl,rfl,trivial⟩ (.refl _) (by omega) (by omega)
 ·have hjk:j=k:=by omega
  subst hjk
  have h0:0<j->((Ex (λi=>(i:Int)) 0 j).map encS)[0]? =some (encS (fq 0 0)):=λh=>by
   rw[List.getElem?_map,List.getElem?_eq_getElem (by rw[BL];exact h),Xd j 0 h];rfl
  have hset:((Ex (λi=>(i:Int)) 0 j).map encS).set (j-1) (encS (fq 0 0))=((Ex (λi=>(i:Int)) 0 j).set (j-1) (fq 0 0)).map encS:=by rw[List.map_set]
  refine S.sq<|Q.rg<|Q.mv U<|Q.mv U<|Q.bi U U U<|Q.nt<|S.cF U (decide_eq_false (by omega))<|UW.exit<|UQ.pass<|UQ.pass<|UQ.here<|UQ.then<|?_
  refine S.E5 (λL:List ByteArray=>[(8,.own Xm 0 j 1),(7,.v (.int .i64 (j:Int))),(1,.v (.bool tw)),(2,.v (.bool bL))]) (λL=>[(Xm,.row 9 1 (L.map encS))]) (λL=>L=iB j tw) ?_ (λL hL=>?_)
  refine Q.rg<|Q.mv U<|Q.mv U<|?_
  refine S.tB 32 (λhc32=>?_) (λhc32=>?_)
  refine Q.on (Z.mv U)<|Q.on (Z.bi U U U)<|Q.pk U U<|Q.nt<|?_
  refine S.cD U (λhc35=>?_) (λhc35=>?_)
  refine S.rg<|Q.mv U<|Q.mv U<|S.qu (Z.sub U U (IntWalk.i64_in _ (by omega)))<|Q.mv U<|S.qu (Z.io aZ U U (by omega) (by omega))<|S.qu (Z.II 0 dW U U (m:=0) U hrs (h0 (by omega)))<|S.qu (Z.io aZ U U (by omega) (by omega))<|S.s<|D.sre 0 (m:=j-1) dW U U (by omega) (by omega) U U U U hrs hset λ_=>US.nil<|?_
  refine S.iD _ ⟨rfl,rfl,rfl,rfl,trivial⟩ (.refl _) (by unfold iB;rw[if_pos ⟨by assumption,by omega⟩])
  refine UW.skip<|?_
  refine S.iD _ ⟨rfl,rfl,rfl,rfl,trivial⟩ (.refl _) (by unfold iB;rw[if_neg (λh=>by first|omega|exact absurd h.1 (by assumption)|exact absurd (h.1.symm.trans (by assumption)) (by decide))])
  refine Q.of<|Q.of<|Q.pk U U<|Q.nt<|S.cF U U<|UW.skip<|?_
  refine S.iD _ ⟨rfl,rfl,rfl,rfl,trivial⟩ (.refl _) (by unfold iB;rw[if_neg (λh=>by first|omega|exact absurd h.1 (by assumption)|exact absurd (h.1.symm.trans (by assumption)) (by decide))])
  subst hL
  have hll:((iB j tw).map encS).length=j:=by rw[List.length_map,hel]
  refine Q.rg<|S.qu (Z.eq (u':=.agg (aC lN)) (Z.bd [0] gU U U U U U U) U)<|S.qu (Z.eq (u':=.agg (gZ (bV Ag ⟨#[]⟩ false [] [] 0 0))) (Z.bd [1,4,5,10] wh U U U U U U) U)<|S.dd<|D.al z28 U U U λTt=>S.s<|D.st 0 di U U U U U U U U λ_=>Q.nt<|?_
  refine S.E5 (λp:List ByteArray×List ByteArray=>[(10,.ptr Tt 0),(7,.v (.int .i64 (j:Int))),(1,.v (.bool tw))]) (λp=>[(Tt,.box 28 (gZ (bV Ag ⟨#[]⟩ false p.1 p.2 0 0)))]) (λp=>p=([],iB j tw)\/p=(iB j tw,[])) ?_ (λp hp=>?_)
  refine Q.rg<|Q.mv U<|Q.nt<|?_
  refine S.cB U (λWl=>?_) (λWl=>?_)
  refine S.rg<|Q.mv U<|US.fV 46 1 (rs:=(iB j tw).map encS) U U (by omega) (by rw[List.drop_zero];exact List.take_of_length_le (by omega))<|?_
  refine Q.fa o5 U<|S.s<|D.st 0 dB U U U U U U U U λ_=>US.nil<|?_
  refine S.iD ([],iB j tw) ⟨rfl,rfl,rfl,trivial⟩ (.refl _) (.inl U)
  refine S.rg<|Q.mv U<|US.fV 48 1 (rs:=(iB j tw).map encS) U U (by omega) (by rw[List.drop_zero];exact List.take_of_length_le (by omega))<|?_
  refine Q.fa oH U<|S.s<|D.st 0 dB U U U U U U U U λ_=>US.nil<|?_
  refine S.iD (iB j tw,[]) ⟨rfl,rfl,rfl,trivial⟩ (.refl _) (.inr U)
  have mk2:=mk p hp
  have mk4:=mk3 p hp
  obtain⟨y,hyl,rd2⟩:=rd p hp
  have rd4:=rd3 p hp
  generalize zeroE=z at*
  obtain⟨yi,yt,yk,ys,yu,yr,yp,ya,yd,ym,yb⟩:=y
  obtain⟨b0,b1,b2,b3,b4⟩:=yb
  obtain⟨zi,zt,zk,zs,zu,zr,zp,za,zd,zm,zb⟩:=z
  obtain⟨c0,c1,c2,c3,c4⟩:=zb
  simp only at hyl
  refine Q.rg<|S.qu (Z.bW 0 di U U U)<|S.qu (Z.bK U U (λ_ hS=>mk2 _ (hG.mono hS)))<|S.qu (Z.bK U U (λ_ hS=>rd2 _ (hG.mono hS)))<|Q.mv U<|S.qu (Z.ex U U)<|S.qu (Z.ex U U)<|S.dd<|D.al z28 U U U λVX=>S.s<|D.st 0 di U U U U U U U U λ_=>Q.as U<|Q.nt<|?_
  refine S.E5 (λx:Bool=>[(13,.v (.bool x)),(12,.v (.int .u16 (if edgeOk j tw=true then 0 else 15))),(11,.ptr VX 0),(10,.ptr Tt 0),(7,.v (.int .i64 (j:Int)))]) (λ_=>[(VX,.box 28 (gZ ⟨yi,yt,yk,ys,yu,yr,yp,ya,yd,ym,.mk b0 b1 b2 b3 b4⟩)),(Tt,.box 28 (gZ (bV Ag ⟨#[]⟩ false p.1 p.2 0 0)))]) (λx=>x=edgeOk j tw) ?_ (λx hx=>?_)
  refine S.rg<|Q.mv U<|Q.bi U U U<|Q.mv U<|?_
  refine S.tD 58 (λhc58=>?_) (λhc58=>?_)
  refine Q.on (Z.mv U)<|Q.on (Z.mv U)<|?_
  refine S.tB 60 (λVt=>?_) (λVt=>?_)
  refine Q.on (Z.mv U)<|Q.on (Z.bi U U U)<|Q.on (Z.pick U U)<|Q.on (Z.not U)<|Q.pk U U<|Q.as U<|US.nil<|?_
  refine S.iD _ ⟨rfl,rfl,rfl,rfl,rfl,trivial⟩ (.refl _) (edge_b (by omega) (by assumption))
  refine Q.of<|Q.of<|Q.on (Z.pick U U)<|Q.on (Z.not U)<|Q.pk U U<|Q.as U<|US.nil<|?_
  refine S.iD _ ⟨rfl,rfl,rfl,rfl,rfl,trivial⟩ (.refl _) (edge_f (by omega) (by assumption))
  refine Q.of<|Q.of<|Q.ou<|Q.ou<|Q.of<|Q.of<|Q.pk U U<|Q.as U<|US.nil<|?_
  refine S.iD _ ⟨rfl,rfl,rfl,rfl,rfl,trivial⟩ (.refl _) (ab9 (by omega))
  refine Q.rg<|S.qu (Z.bW 1 di U U U)<|S.dd<|D.al z28 U U U λMx=>S.s<|D.st 0 di U U U U U U U U λ_=>Q.nt<|Q.rg<|S.qu (Z.eq (u':=strs [sM]) (Z.bl dQ U U (bz U)) U)<|Q.fa oH U<|S.s<|D.st 0 dB U U U U U U U U λ_=>Q.nt<|Q.rg<|S.qu (Z.bW 0 di U U U)<|S.qu (Z.bK U U (λ_ hS=>mk4 _ (hG.mono hS)))<|S.qu (Z.bK U U (λ_ hS=>rd4 _ (hG.mono hS)))<|Q.mv U<|S.qu (Z.ex U U)<|S.qu (Z.ex U U)<|S.dd<|D.al z28 U U U λp15=>S.s<|D.st 0 di U U U U U U U U λ_=>Q.as U<|Q.nt<|?_
  subst hx
  have hl1:(yp.map encS).length=yp.length:=List.length_map ..
  have hl2:(ya.map encS).length=ya.length:=List.length_map ..
  cases hok:edgeOk j tw with
  |true=>
   rw[if_pos U]
   obtain⟨w1,w2,w3⟩:=hyl hok
   focus
    refine Q.rg<|S.qu (Z.bK U U (λ_ hS=>ig _ (hG.mono hS)))<|Q.mv U<|Q.on (Z.mv U)<|Q.on (Z.bi U U U)<|Q.on (Z.mv U)<|Q.on (Z.beq Tryz.underlying4 U U)<|Q.pk U U<|Q.mv U<|?_
    refine S.tE 82 (λvQ=>?_) (λvQ=>?_)
    rotate_left
    contradiction
    refine Q.on (Z.mv U)<|Q.on (Z.not U)<|Q.on (Z.mv U)<|S.tF 85 U<|Q.on (Z.fa oH U)<|Q.on (Z.dM 2 dB U U U)<|Q.on (Z.eq (u':=.v (.int .i64 (yp.length:Int))) (Z.fM aZ U) (congrArg (λx:Nat=>AV.v (.int .i64 (x:Int))) hl1))<|Q.on (Z.fa o5 U)<|Q.on (Z.dM 2 dB U U U)<|Q.on (Z.eq (u':=.v (.int .i64 (ya.length:Int))) (Z.fM aZ U) (congrArg (λx:Nat=>AV.v (.int .i64 (x:Int))) hl2))<|Q.on (Z.add (r:=(j:Int)) U U (by rw[IntWalk.i64_in _ (by omega)];omega))<|?_
    refine Q.on (Z.mv U)<|Q.on (Z.bi U U U)<|Q.on (Z.pick U U)<|Q.pk U U<|Q.mv U<|?_
    refine S.tE 97 (λhc97=>?_) (λhc97=>?_)
    rotate_left
    omega
    refine Q.on (Z.mv U)<|Q.on (Z.bi U U U)<|Q.pk U U<|Q.as U<|Q.nt<|UW.ret<|S.bH (λ_=>ak U U)<|?_
    rfl
  |false=>
   rw[if_neg (by decide)]
   focus
    refine Q.rg<|S.qu (Z.bK U U (λ_ hS=>ig _ (hG.mono hS)))<|Q.mv U<|Q.on (Z.mv U)<|Q.on (Z.bi U U U)<|Q.on (Z.mv U)<|Q.on (Z.beq Tryz.underlying4 U U)<|Q.pk U U<|Q.mv U<|?_
    refine S.tE 82 (λvQ=>?_) (λvQ=>?_)
    rotate_left
    contradiction
    refine Q.on (Z.mv U)<|Q.on (Z.not U)<|Q.on (Z.mv U)<|S.tT 85 U<|Q.of<|Q.of<|Q.of<|Q.of<|Q.of<|Q.of<|Q.of<|Q.of<|Q.of<|Q.on (Z.pick U U)<|Q.pk U U<|Q.mv U<|Q.on (Z.mv U)<|Q.on (Z.bi U U U)<|Q.pk U U<|Q.as U<|Q.nt<|UW.ret<|S.bH (λ_=>ak U U)<|?_
    rfl
end Go.Proofs.YtonpfomjoiaacaaGreatDoor
end
