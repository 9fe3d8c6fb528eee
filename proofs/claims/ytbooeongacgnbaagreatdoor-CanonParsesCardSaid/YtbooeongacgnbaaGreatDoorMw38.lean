/- A part of the proof. -/
import Derived.Test.YtbooeongacgnbaaGreatDoorMw37
set_option maxRecDepth 100000
set_option maxHeartbeats 4000000
set_option linter.unusedSectionVars false
set_option linter.unusedVariables false
set_option linter.unusedSimpArgs false
section
namespace Go.Proofs.YtbooeongacgnbaaGreatDoor
open Go Go.gW Go.RowKit
def TQ(ga gb:Addr)(p:Nat)(s:ByteArray)(d f x:Nat):Prop:=∀G,bO ga gb G->aK G [bN p s x d]->F Tryz.prog 55 [.ptr p 0] (aB G [bN p s x d]) (jc p s d G (fQ s f x d))
def ZU(d:Nat):PR->V->AV->Nat->Nat->Prop
 | .err e q,_,x,q1,_=>x=F5 e q/\q=q1
 | .ok q w,w1,x,q1,d1=>x=.v .nilIface/\q=q1/\d=d1/\w=w1
theorem jc.Zh{p:Nat}{s:ByteArray}{d:Nat}{G:Hp}{r:PR}{u:AV}{H':Hp}(h:jc p s d G r u H'):X0 p s (ZU d r) G u H':=by
 cases r with
 |err e q=>
  obtain⟨news,h1,h2,v,d',h3,h4⟩:=h
  exact⟨news,h1,h2,v,_,q,d',⟨rfl,rfl⟩,h3,h4⟩
 |ok q v=>
  obtain⟨news,h1,h2,h3,h4⟩:=h
  exact⟨news,h1,h2,v,_,q,d,⟨rfl,rfl,rfl,rfl⟩,h3,h4⟩
structure Pn(s:ByteArray)(q d f:Nat)(R:PR)(g x:Nat)(vs:List V)(m:Nat)(more:Bool):Prop where
 le:x<=s.size
 fuel:g<=f
 num:vs.length=m
 len:m<=x
 no:more=false->R=if bT s x 93=true then .ok (x+1) (.mk 4 0 ⟨#[]⟩ [] vs) else .err 11 x
 go:more=true->∃y,(m=0->y=x)/\(0<m->bT s x 44=true/\y=aC s (x+1))/\q<y/\x<=y/\y<=s.size/\dP s g y d false (.mk 4 0 ⟨#[]⟩ [] vs)=R/\4*(s.size-y)+6<=g
theorem BB(p:Nat)(s:ByteArray)(q d:Nat)(hs:s.size<=1000000)(hq:q<=s.size)(hdd:32<=d)(hd33:d<=32)(c:ByteArray)(k:Int)(x:AV)(G:Hp){ga gb:Addr}(hG:bO ga gb G)(hd:aK G [bN p s q d]):F Tryz.prog 78 [.ptr p 0,.v (.string c),.v (.int .i64 k),x] (aB G [bN p s q d]) (jc p s d G (.err 12 q)):=by
 have hw:=dK p s q d 12
 unfold bN at hd⊢
 refine aA (n:=78) (H0:=G) (M:=[(p,.box 60 (gu s q d))]) Tryz.func78 (by kernel_rfl) U (by rw[Tryz.ntmps78];rfl) hd<|?_
 refine Q.rg<|S.dd<|D.al z27 U U U λp8=>Q.as U<|Q.nt<|Q.rg<|Q.mv U<|S.qu (Z.bd [0] dh U U U U U U)<|S.dd<|D.al z27 U U U λxG=>S.s<|D.st 0 ay U U U U U U U U λ_=>Q.nt<|S.sq<|Q.rg<|Q.mv U<|S.qu (Z.iC U)<|Q.fa mZ U<|Q.lc 2 bC U U U<|Q.bi U U U<|Q.nt<|S.cT U (decide_eq_true (by omega))<|S.sq<|?_
 refine' UW.dC (by kernel_rfl) [0,0,2,7,15] [some 20,some 21,some 22,none,none] [some (20,_),some (21,_),some (22,_),none,none] [3,4] [0,2] U (by decide) (by decide) (I.held (by decide) U U ?jK (I.free (by decide) U U ?jL (I.held (by decide) U U ?u6 (I.skip (I.skip I.nil))))) ?u7
 case jK=>exact Z.bg 0 ay rfl rfl rfl
 case jL=>(intro _;exact Z.mv rfl)
 case u6=>exact Z.aQ rfl rfl (λhd=>hw _ (hd.at_ (k:=2) rfl))
 refine CH.aV U U<|D.st 1 ay U U U U U U U U λ_=>CH.cons U U (by decide)<|D.qu (Z.as U)<|CH.nil<|?_
 simp only[app,bV]
 refine UQ.then<|UW.ret<|UQ.aj<|?_
 exact bD [(p,.box 60 (gu s q d))] (λhd=>ax U (av (k:=1) hd U U bH bI) (Y U)) (by repeat (first|exact List.nil_sublist _|refine .cons_cons _ ?_|refine .cons _ ?_)) λhd=>⟨_,hd,rfl,.mk k 0 ⟨#[]⟩ [] [],d,rfl,rfl⟩
theorem Iq(p:Nat)(s:ByteArray)(q d f:Nat)(hs:s.size<=1000000)(hq:q<s.size)(hdd:d<32)(hf:4*(s.size-q)+3<=f+1){ga gb:Addr}
 (hV:∀f',f'<f->∀x,q<x->x<=s.size->4*(s.size-x)+4<=f'->TQ ga gb p s (d+1) f' x) (G:Hp) (hG:bO ga gb G) (hd:aK G [bN p s q d]):F Tryz.prog 78 [.ptr p 0,.v (.string ⟨#[93]⟩),.v (.int .i64 4),.bnd 79 [.ptr p 0]] (aB G [bN p s q d]) (jc p s d G (gJ s (f+1) q (d+1) false)):=by
 have h1:=bu s (q+1)
 have h2:=aX s (q+1) (by omega)
 have hb0:=λG hd=>bX p s (q+1) (d+1) hs (by omega) G hd
 rw[gJ]
 generalize aC s (q+1)=c at*
 obtain⟨R,hR⟩:∃R,R=(if bT s c (jY false)=true then PR.ok (c+1) (qP false) else dP s f c (d+1) false (qP false)):=⟨_,rfl⟩
 have hI0:Pn s q (d+1) f R f c [] 0 (!(bT s c 93)):=by
  cases hn:bT s c 93 with
  |true=>
   refine⟨h2,Nat.le_refl _,rfl,Nat.zero_le _,λ_=>?_,λh=>by cases h⟩
   rw[hR,if_pos (show bT s c (jY false)=true from hn),if_pos hn];rfl
  |false=>
   refine⟨h2,Nat.le_refl _,rfl,Nat.zero_le _,λh=>(by cases h),λ_=>⟨c,λ_=>rfl,λh=>absurd h (Nat.lt_irrefl _),by omega,Nat.le_refl _,h2,?_,by omega⟩⟩
   rw[hR,if_neg (show ¬bT s c (jY false)=true fromλh=>by rw[show bT s c (jY false)=false from hn] at h;cases h)];rfl
 have hi0:=eB p s c (d+1) hs h2 93 _ U
 rw[<-hR]
 clear hR
 unfold bN at hd⊢
 refine aA (n:=78) (H0:=G) (M:=[(p,.box 60 (gu s q d))]) Tryz.func78 (by kernel_rfl) U (by rw[Tryz.ntmps78];rfl) hd<|?_
 refine Q.rg<|S.dd<|D.al z27 U U U λp8=>Q.as U<|Q.nt<|Q.rg<|Q.mv U<|S.qu (Z.ZB [0] dh U U U U U)<|S.dd<|D.al z27 U U U λxG=>S.s<|D.st 0 ay U U U U U U U U λ_=>?_
 (refine US.vO (sz:=5) 0 4 27 (by decide) U U (λr0=>?_);simp only[List.set_cons_zero,List.set_cons_succ])
 refine Q.nt<|S.sq<|Q.rg<|Q.mv U<|S.qu (Z.iC U)<|Q.fa mZ U<|Q.lc 3 bC U U U<|Q.bi U U U<|Q.nt<|S.cF U (decide_eq_false (by omega))<|UW.skip<|UQ.then<|Q.rg<|Q.mv U<|S.qu (Z.iC U)<|Q.fa mZ U<|Q.lc 3 bC U U U<|S.qu (Z.add (r:=((d+1:Nat):Int)) U U (IntWalk.i64_in _ (by omega)))<|S.qu (Z.iC U)<|Q.fa mZ U<|S.s<|D.st 3 bC U U U U U U U U λ_=>Q.nt<|Q.rg<|Q.mv U<|S.qu (Z.iC U)<|Q.fa eu U<|Q.lc 3 bC U U U<|S.qu (Z.add (r:=((q+1:Nat):Int)) U U (IntWalk.i64_in _ (by omega)))<|S.qu (Z.iC U)<|Q.fa eu U<|S.s<|D.st 3 bC U U U U U U U U λ_=>Q.nt<|Q.rg<|Q.mv U<|S.dd<|D.oJ (.cons 3 U .nil) U U (λH hS hD=>hb0 H hD)<|?_
 (rintro _ _ ⟨rfl,rfl⟩;unfold bN)
 refine Q.nt<|S.sq<|Q.rg<|Q.mv U<|Q.mv U<|S.qu (Z.aQ U U (λhd=>hi0 _ (hd.at_ (k:=0) U)))<|S.qu (Z.not U)<|Q.as U<|Q.nt<|UW.block<|S.loop (λj:Nat×Nat×List V×Nat×Bool×Nat=>[(11,.v (.bool j.2.2.2.2.1)),(10,.ptr xG 0),(8,.ptr p8 0),(3,.bnd 79 [.ptr p 0]),(1,.v (.string ⟨#[93]⟩)),(0,.ptr p 0)]) (λj=>[(p,.box 60 (gu s j.2.1 (d+1))),(j.2.2.2.2.2,.row 27 5 (bE j.2.2.1)),(xG,.box 27 [.v (.int .i64 4),.v (.int .i64 0),.v (.string ⟨#[]⟩),.v (.slice none 0 0),.own j.2.2.2.2.2 0 j.2.2.2.1 5]),(p8,.box 27 (aN zeroV))]) (λj=>Pn s q (d+1) f R j.1 j.2.1 j.2.2.1 j.2.2.2.1 j.2.2.2.2.1) (λj=>j.1) (f,c,[],0,!(bT s c 93),r0) hI0 ⟨rfl,rfl,rfl,rfl,rfl,rfl,trivial⟩ (.refl _)<|?_
 rintro⟨g,x,vs,m,more,r⟩ ⟨hx,hg,Bu,hlen,hno,hgo⟩
 dsimp only at hx hg Bu hlen hno hgo⊢
 have hvl:=aS vs
 cases more with
 |false=>
  have hno:=hno U
  clear hgo
  have Pd:((bE vs).drop 0).take m=bE vs:=by rw[List.drop_zero,List.take_of_length_le (by omega)]
  cases he:bT s x 93 with
  |true=>
   rw[he,if_pos U] at hno
   subst hno
   have hlt:=bP he
   have hne:=λG hd=>sM p s x d hs hx ⟨#[93]⟩ (by rw[show(⟨#[93]⟩:ByteArray).data.toList=[93] from rfl,qE s x 93 hx];exact he) (by decide) G hd
   refine S.sq<|Q.rg<|Q.mv U<|Q.nt<|S.cF U U<|UW.exit<|UQ.pass<|UQ.pass<|UQ.here<|UQ.then<|Q.rg<|Q.mv U<|S.qu (Z.iC U)<|Q.fa mZ U<|Q.lc 0 bC U U U<|S.qu (Z.sub (r:=((d:Nat):Int)) U U (Eq.trans (IntWalk.i64_in _ (by omega)) (by omega)))<|S.qu (Z.iC U)<|Q.fa mZ U<|S.s<|D.st 0 bC U U U U U U U U λ_=>Q.nt<|UW.o6 1 4 1 U U U (by omega) Pd U<|S.sq<|?_
   refine' UW.gF (by kernel_rfl) [1] [0,0,0,6,15,31] [some 74,some 75,some 76,none,none,none] [some (74,_),some (75,_),some (76,_),none,none,none] [3,4,5] [] U (by decide) (by decide) (I.kept (by decide) U U ?fG (I.free (by decide) U U ?fH (I.free (by decide) U U ?iL (I.skip (I.skip (I.skip I.nil)))))) ?lG
   case fG=>(intro _ hK;exact Z.kw 0 hK ay rfl rfl rfl)
   case fH=>(intro _;exact Z.mv rfl)
   case iL=>(intro _;exact Z.mv rfl)
   refine CH.cons U U (by decide) ?_ (.c 1 U .n)
   refine D.Sm (n0:=[(p,.box 60 (gu s (x+1) d))]) (.cons 0 U .nil) U U (λH hS hD=>hne H hD)<|?_
   refine CH.aV U U ?_ (.c 1 U .n)
   refine D.st 2 ay U U U U U U U U λ_=>?_
   refine CH.cons U U (by decide) ?_ (.c 1 U .n)
   refine D.qu (Z.as U)<|?_
   refine CH.nil ?_ (.c 1 U .n)
   simp only[app,bV]
   refine UQ.then<|UW.ret<|?_
   exact bD [(p,.box 60 (gu s (x+1) d))] (λhd=>ax U (av (k:=2) hd U U bH bI) (Y U)) (by repeat (first|exact List.nil_sublist _|refine .cons_cons _ ?_|refine .cons _ ?_)) λhd=>⟨_,hd,rfl,rfl,rfl⟩
  |false=>
   rw[he,if_neg (by decide)] at hno
   subst hno
   have hne:=λG hd=>Be p s x d hs hx ⟨#[93]⟩ (by rw[show(⟨#[93]⟩:ByteArray).data.toList=[93] from rfl,qE s x 93 hx];exact he) (by decide) G hd
   refine S.sq<|Q.rg<|Q.mv U<|Q.nt<|S.cF U U<|UW.exit<|UQ.pass<|UQ.pass<|UQ.here<|UQ.then<|Q.rg<|Q.mv U<|S.qu (Z.iC U)<|Q.fa mZ U<|Q.lc 0 bC U U U<|S.qu (Z.sub (r:=((d:Nat):Int)) U U (Eq.trans (IntWalk.i64_in _ (by omega)) (by omega)))<|S.qu (Z.iC U)<|Q.fa mZ U<|S.s<|D.st 0 bC U U U U U U U U λ_=>Q.nt<|UW.o6 1 4 1 U U U (by omega) Pd U<|S.sq<|?_
   refine' UW.gF (by kernel_rfl) [1] [0,0,0,6,15,31] [some 74,some 75,some 76,none,none,none] [some (74,_),some (75,_),some (76,_),none,none,none] [3,4,5] [] U (by decide) (by decide) (I.kept (by decide) U U ?ic (I.free (by decide) U U ?ig (I.free (by decide) U U ?mX (I.skip (I.skip (I.skip I.nil)))))) ?oF
   case ic=>(intro _ hK;exact Z.kw 0 hK ay rfl rfl rfl)
   case ig=>(intro _;exact Z.mv rfl)
   case mX=>(intro _;exact Z.mv rfl)
   refine CH.cons U U (by decide) ?_ (.c 1 U .n)
   refine D.Sm (n0:=[(p,.box 60 (gu s x d))]) (.cons 0 U .nil) U U (λH hS hD=>hne H hD)<|?_
   refine CH.aV U U ?_ (.c 1 U .n)
   refine D.st 2 ay U U U U U U U U λ_=>?_
   refine CH.cons U U (by decide) ?_ (.c 1 U .n)
   refine D.qu (Z.as U)<|?_
   refine CH.nil ?_ (.c 1 U .n)
   simp only[app,bV]
   refine UQ.then<|UW.ret<|?_
   exact bD [(p,.box 60 (gu s x d))] (λhd=>ax U (av (k:=2) hd U U bH bI) (Y U)) (by repeat (first|exact List.nil_sublist _|refine .cons_cons _ ?_|refine .cons _ ?_)) λhd=>⟨_,hd,rfl,.mk 4 0 ⟨#[]⟩ [] vs,d,rfl,rfl⟩
 |true=>
  obtain⟨y,hy0,hym,ZV,hxy,hys,hl,hfu⟩:=hgo rfl
  clear hno hgo
  obtain⟨g,rfl⟩:∃g',g=g'+2:=⟨g-2,by omega⟩
  have Pb:=hV (g+1) (by omega) y ZV hys (by omega)
  unfold TQ at Pb
  rw[dP,if_neg (by decide)] at hl
  have hit:=λpv r G hG hd=>Pm p pv r s y (d+1) m vs Bu (by omega) (ZU (d+1) (fQ s (g+1) y (d+1))) G (ga:=ga) (gb:=gb) hG (λG hG hd=>(Pb G hG hd).mono λu H' h=>h.Zh) hd
  clear Pb
  cases hr:fQ s (g+1) y (d+1) with
  |err e1 q1=>
   rw[hr] at hl hit
   dsimp only at hl
   subst hl
   have Pd:∀u,((bE (vs++[u])).drop 0).take (m+1)=bE (vs++[u]):=λu=>by rw[List.drop_zero,List.take_of_length_le (by rw[aS,List.length_append,Bu];exact Nat.le_refl _)]
   have hpl:∀u,(bE (vs++[u])).length=m+1:=λu=>by rw[aS,List.length_append,Bu];rfl
   by_cases hm0:m=0
   ·have:=hy0 hm0
    subst this
    unfold Ns bN Nr at hit
    refine S.sq<|Q.rg<|Q.mv U<|Q.nt<|S.cT U U<|UW.skip<|UQ.then<|S.sq<|UW.block<|S.sq<|Q.rg<|Q.fa bQ U<|Q.lc 2 dm U U U<|S.qu (Z.Co bR U)<|Q.bi U U U<|Q.nt<|S.cF U (decide_eq_false (by omega))<|UW.skip<|UQ.then<|S.sq<|Q.rg<|Q.mv U<|S.dd<|D.H6 (.cons 1 U (.cons 0 U (.cons 0 U .nil))) U U (λH hS hD=>hit xG r H (hG.mono hS) hD)<|?_
    (rintro _ _ ⟨w,_,d1,r',⟨rfl,rfl⟩,rfl⟩;unfold Ns bN Nr)
    refine Q.as U<|Q.nt<|Q.rg<|Q.mv U<|S.qu (Z.inT U)<|Q.nt<|S.cT U U<|UW.o6 1 4 0 U U U (by rw[hpl];omega) (Pd w) U<|?_
    refine Q.rg<|S.qu (Z.bg 1 ay U U U)<|Q.mv U<|S.s<|D.st 2 ay U U U U U U U U λ_=>Q.as U<|Q.nt<|UW.ret<|UQ.aj<|UQ.az<|UQ.aj<|UQ.aj<|UQ.az<|UQ.aj<|?_
    exact bD [(p,.box 60 (gu s q1 d1))] (λhd=>ax U (av (k:=2) hd U U bH bI) (Y U)) (by repeat (first|exact List.nil_sublist _|refine .cons_cons _ ?_|refine .cons _ ?_)) λhd=>⟨_,hd,rfl,.mk 4 0 ⟨#[]⟩ [] (vs++[w]),d1,rfl,rfl⟩
   ·obtain⟨Lj,rfl⟩:=hym (by omega)
    have hb1:=λG hd=>bX p s (x+1) (d+1) hs (by have:=bP Lj;omega) G hd
    have hlt:=bP Lj
    generalize aC s (x+1)=y at*
    unfold Ns bN Nr at hit
    refine S.sq<|Q.rg<|Q.mv U<|Q.nt<|S.cT U U<|UW.skip<|UQ.then<|S.sq<|UW.block<|S.sq<|Q.rg<|Q.fa bQ U<|Q.lc 2 dm U U U<|S.qu (Z.Co bR U)<|Q.bi U U U<|Q.nt<|S.cT U (decide_eq_true (by omega))<|Q.rg<|Q.mv U<|S.qu (Z.iC U)<|Q.fa eu U<|Q.lc 0 bC U U U<|S.qu (Z.add (r:=((x+1:Nat):Int)) U U (IntWalk.i64_in _ (by omega)))<|S.qu (Z.iC U)<|Q.fa eu U<|S.s<|D.st 0 bC U U U U U U U U λ_=>Q.nt<|S.rg<|Q.mv U<|S.dd<|D.oJ (.cons 0 U .nil) U U (λH hS hD=>hb1 H hD)<|?_
    (rintro _ _ ⟨rfl,rfl⟩;unfold bN)
    refine Q.nt<|S.sq<|Q.rg<|Q.mv U<|S.dd<|D.H6 (.cons 1 U (.cons 0 U (.cons 0 U .nil))) U U (λH hS hD=>hit xG r H (hG.mono hS) hD)<|?_
    (rintro _ _ ⟨w,_,d1,r',⟨rfl,rfl⟩,rfl⟩;unfold Ns bN Nr)
    refine Q.as U<|Q.nt<|Q.rg<|Q.mv U<|S.qu (Z.inT U)<|Q.nt<|S.cT U U<|UW.o6 1 4 0 U U U (by rw[hpl];omega) (Pd w) U<|?_
    refine Q.rg<|S.qu (Z.bg 1 ay U U U)<|Q.mv U<|S.s<|D.st 2 ay U U U U U U U U λ_=>Q.as U<|Q.nt<|UW.ret<|UQ.aj<|UQ.az<|UQ.aj<|UQ.aj<|UQ.az<|UQ.aj<|?_
    exact bD [(p,.box 60 (gu s q1 d1))] (λhd=>ax U (av (k:=2) hd U U bH bI) (Y U)) (by repeat (first|exact List.nil_sublist _|refine .cons_cons _ ?_|refine .cons _ ?_)) λhd=>⟨_,hd,rfl,.mk 4 0 ⟨#[]⟩ [] (vs++[w]),d1,rfl,rfl⟩
  |ok q1 w=>
   obtain⟨hq1,hq2⟩:=(kM s (g+1)).1 _ _ _ _ hys hr
   rw[hr] at hl hit
   dsimp only at hl
   rw[Dr] at hl
   have LA:(vs++[w]).length=m+1:=by rw[List.length_append,Bu];rfl
   have h3:=bu s q1
   have h4:=aX s q1 hq2
   have hb2:=λG hd=>bX p s q1 (d+1) hs hq2 G hd
   have hic:=eB p s (aC s q1) (d+1) hs h4 44 _ U
   have hI2:Pn s q (d+1) f R (g+1) (aC s q1) (vs++[w]) (m+1) (bT s (aC s q1) 44):=by
    refine⟨h4,by omega,LA,by omega,λh=>?_,λh=>?_⟩
    ·rw[if_neg (show ¬bT s (aC s q1) 44=true from by rw[h];decide)] at hl
     exact hl.symm
    ·have Zi:=nZ h (show(44:Int)≠93 by decide)
     rw[if_neg (show ¬bT s (aC s q1) (jY false)=true fromλg=>by rw[show bT s (aC s q1) (jY false)=false from Zi] at g;cases g),if_pos h] at hl
     have hlt:=bP h
     have h5:=bu s (aC s q1+1)
     have h6:=aX s (aC s q1+1) (by omega)
     exact⟨_,λh=>absurd h (by omega),λ_=>⟨h,rfl⟩,by omega,by omega,h6,hl,by omega⟩
   generalize aC s q1=c1 at*
   clear hl
   by_cases hm0:m=0
   ·have:=hy0 hm0
    subst this
    unfold Ns bN Nr at hit
    refine S.sq<|Q.rg<|Q.mv U<|Q.nt<|S.cT U U<|UW.skip<|UQ.then<|S.sq<|UW.block<|S.sq<|Q.rg<|Q.fa bQ U<|Q.lc 2 dm U U U<|S.qu (Z.Co bR U)<|Q.bi U U U<|Q.nt<|S.cF U (decide_eq_false (by omega))<|UW.skip<|UQ.then<|S.sq<|Q.rg<|Q.mv U<|S.dd<|D.H6 (.cons 1 U (.cons 0 U (.cons 0 U .nil))) U U (λH hS hD=>hit xG r H (hG.mono hS) hD)<|?_
    (rintro _ _ ⟨_,_,_,r',⟨rfl,rfl,rfl,rfl⟩,rfl⟩;unfold Ns bN Nr)
    refine Q.as U<|Q.nt<|Q.rg<|Q.mv U<|S.qu (Z.BK U)<|Q.nt<|S.cF U U<|UW.skip<|UQ.then<|S.rg<|Q.mv U<|S.dd<|D.oJ (.cons 1 U .nil) U U (λH hS hD=>hb2 H hD)<|?_
    (rintro _ _ ⟨rfl,rfl⟩;unfold bN)
    refine US.nil<|UQ.aI<|UQ.then<|S.rg<|Q.mv U<|S.qu (Z.aQ U U (λhd=>hic _ (hd.at_ (k:=0) U)))<|Q.as U<|US.nil<|?_
    refine S.back (g+1,c1,vs++[w],m+1,bT s c1 44,r') ⟨rfl,rfl,rfl,rfl,rfl,rfl,trivial⟩ (.refl _) (by omega) (by omega)
   ·obtain⟨Lj,rfl⟩:=hym (by omega)
    have hb1:=λG hd=>bX p s (x+1) (d+1) hs (by have:=bP Lj;omega) G hd
    have hlt:=bP Lj
    generalize aC s (x+1)=y at*
    unfold Ns bN Nr at hit
    refine S.sq<|Q.rg<|Q.mv U<|Q.nt<|S.cT U U<|UW.skip<|UQ.then<|S.sq<|UW.block<|S.sq<|Q.rg<|Q.fa bQ U<|Q.lc 2 dm U U U<|S.qu (Z.Co bR U)<|Q.bi U U U<|Q.nt<|S.cT U (decide_eq_true (by omega))<|Q.rg<|Q.mv U<|S.qu (Z.iC U)<|Q.fa eu U<|Q.lc 0 bC U U U<|S.qu (Z.add (r:=((x+1:Nat):Int)) U U (IntWalk.i64_in _ (by omega)))<|S.qu (Z.iC U)<|Q.fa eu U<|S.s<|D.st 0 bC U U U U U U U U λ_=>Q.nt<|S.rg<|Q.mv U<|S.dd<|D.oJ (.cons 0 U .nil) U U (λH hS hD=>hb1 H hD)<|?_
    (rintro _ _ ⟨rfl,rfl⟩;unfold bN)
    refine Q.nt<|S.sq<|Q.rg<|Q.mv U<|S.dd<|D.H6 (.cons 1 U (.cons 0 U (.cons 0 U .nil))) U U (λH hS hD=>hit xG r H (hG.mono hS) hD)<|?_
    (rintro _ _ ⟨_,_,_,r',⟨rfl,rfl,rfl,rfl⟩,rfl⟩;unfold Ns bN Nr)
    refine Q.as U<|Q.nt<|Q.rg<|Q.mv U<|S.qu (Z.BK U)<|Q.nt<|S.cF U U<|UW.skip<|UQ.then<|S.rg<|Q.mv U<|S.dd<|D.oJ (.cons 1 U .nil) U U (λH hS hD=>hb2 H hD)<|?_
    (rintro _ _ ⟨rfl,rfl⟩;unfold bN)
    refine US.nil<|UQ.aI<|UQ.then<|S.rg<|Q.mv U<|S.qu (Z.aQ U U (λhd=>hic _ (hd.at_ (k:=0) U)))<|Q.as U<|US.nil<|?_
    refine S.back (g+1,c1,vs++[w],m+1,bT s c1 44,r') ⟨rfl,rfl,rfl,rfl,rfl,rfl,trivial⟩ (.refl _) (by omega) (by omega)
theorem Nc{α:Type}(l:List α)(i:Nat)(x:α):0<(eP l i x).length:=by
 unfold eP
 rw[List.length_append,List.length_cons]
 omega
theorem Nf(v:V)(key:ByteArray)(u:V):0<(dE v key u).vs.length:=by
 unfold dE
 cases h:pl (dS v) key with
 |none=>exact Nc _ _ _
 |some i=>
  show 0<((cutV (dS v)).vs.set i u).length
  rw[List.length_set]
  show 0<((dS v).vs.take (min (dS v).ks.length (dS v).vs.length)).length
  rw[List.length_take]
  unfold pl at h
  split at h
  ·cases hk:jE (dS v).ks key with
   |none=>rw[hk] at h;cases h
   |some j=>
    rw[hk] at h
    have:=Ct hk
    dsimp only at h
    split at h
    ·omega
    ·cases h
  ·cases h
theorem KF(p pv:Nat)(s:ByteArray)(q d f:Nat)(hs:s.size<=1000000)(hq:q<=s.size)(v:V)(hv:Fits v){ga gb:Addr}
 (hval:∀x,q<x->x<=s.size->TQ ga gb p s d f x) (G:Hp) (hG:bO ga gb G) (hd:aK G [bN p s q d,yw pv v]):F Tryz.prog 80 [.ptr p 0,.ptr pv 0] (aB G [bN p s q d,yw pv v]) (Dv p pv s d G (gM s (f+1) q d v)):=by
 rw[gM]
 cases hu:gV (s.extract q s.size) with
 |none=>exact Sn p pv s q d hs hq v hv hu G hG hd
 |some kn=>
  obtain⟨key,n⟩:=kn
  dsimp only
  have hn:=fV hu
  rw[ext_size] at hn
  cases hg:(gL v key).2 with
  |true=>rw[if_pos U];exact Sq p pv s q d hs hq v hv key n hu hg G hG hd
  |false=>
   rw[if_neg (by decide)]
   cases hc:bT s (aC s (q+n)) 58 with
   |false=>rw[if_neg (by decide)];exact Sr p pv s q d hs hq v hv key n hu hg hc G hG hd
   |true=>
    rw[if_pos U]
    have hlt:=bP hc
    have h1:=bu s (q+n)
    have h2:=bu s (aC s (q+n)+1)
    have h3:=aX s (aC s (q+n)+1) (by omega)
    have hvl:=hval (aC s (aC s (q+n)+1)) (by omega) h3
    unfold TQ at hvl
    cases hr:fQ s f (aC s (aC s (q+n)+1)) d with
    |err e q1=>
     rw[hr] at hvl
     exact Su p pv s q d hs hq v hv key n hu hg hc e q1 G hG hvl hd
    |ok q1 u=>
     rw[hr] at hvl
     exact Sv p pv s q d hs hq v hv key n hu hg hc u ((xw s hs f).1 _ _ _ _ h3 hr) q1 G hG hvl hd
theorem Ng{s:ByteArray}{f q d:Nat}{v:V}{q1:Nat}{w:V}(h:gM s f q d v=.ok q1 w):0<w.vs.length:=by
 cases f with
 |zero=>rw[gM] at h;cases h
 |succ f=>
  rw[gM] at h
  split at h
  ·cases h
  ·split at h
   ·cases h
   ·split at h
    ·split at h
     ·cases h
     ·cases h
      exact Nf _ _ _
    ·cases h
structure Po(s:ByteArray)(q d f:Nat)(R:PR)(g x:Nat)(v:V)(more:Bool):Prop where
 le:x<=s.size
 fuel:g<=f
 kept:Kept x v
 no:more=false->R=if bT s x 125=true then .ok (x+1) v else .err 11 x
 go:more=true->∃y,(v.vs.length=0->y=x)/\(0<v.vs.length->bT s x 44=true/\y=aC s (x+1))/\q<y/\x<=y/\y<=s.size/\dP s g y d true v=R/\4*(s.size-y)+6<=g
theorem Ir(p:Nat)(s:ByteArray)(q d f:Nat)(hs:s.size<=1000000)(hq:q<s.size)(hdd:d<32)(hf:4*(s.size-q)+3<=f+1){ga gb:Addr}
 (hV:∀f',f'<f->∀x,q<x->x<=s.size->4*(s.size-x)+4<=f'->TQ ga gb p s (d+1) f' x) (G:Hp) (hG:bO ga gb G) (hd:aK G [bN p s q d]):F Tryz.prog 78 [.ptr p 0,.v (.string ⟨#[125]⟩),.v (.int .i64 5),.bnd 80 [.ptr p 0]] (aB G [bN p s q d]) (jc p s d G (gJ s (f+1) q (d+1) true)):=by
 have h1:=bu s (q+1)
 have h2:=aX s (q+1) (by omega)
 have hb0:=λG hd=>bX p s (q+1) (d+1) hs (by omega) G hd
 rw[gJ]
 generalize aC s (q+1)=c at*
 obtain⟨R,hR⟩:∃R,R=(if bT s c (jY true)=true then PR.ok (c+1) (qP true) else dP s f c (d+1) true (qP true)):=⟨_,rfl⟩
 have hI0:Po s q (d+1) f R f c (.mk 5 0 ⟨#[]⟩ [] []) (!(bT s c 125)):=by
  cases hn:bT s c 125 with
  |true=>
   refine⟨h2,Nat.le_refl _,Kept.new _ true,λ_=>?_,λh=>by cases h⟩
   rw[hR,if_pos (show bT s c (jY true)=true from hn),if_pos hn];rfl
  |false=>
   refine⟨h2,Nat.le_refl _,Kept.new _ true,λh=>(by cases h),λ_=>⟨c,λ_=>rfl,λh=>absurd h (Nat.lt_irrefl _),by omega,Nat.le_refl _,h2,?_,by omega⟩⟩
   rw[hR,if_neg (show ¬bT s c (jY true)=true fromλh=>by rw[show bT s c (jY true)=false from hn] at h;cases h)];rfl
 have hi0:=eB p s c (d+1) hs h2 125 _ U
 rw[<-hR]
 clear hR
 unfold bN at hd⊢
 refine aA (n:=78) (H0:=G) (M:=[(p,.box 60 (gu s q d))]) Tryz.func78 (by kernel_rfl) U (by rw[Tryz.ntmps78];rfl) hd<|?_
 refine Q.rg<|S.dd<|D.al z27 U U U λp8=>Q.as U<|Q.nt<|Q.rg<|Q.mv U<|S.qu (Z.bd [0] dh U U U U U U)<|S.dd<|D.al z27 U U U λxG=>S.s<|D.st 0 ay U U U U U U U U λ_=>Q.nt<|S.sq<|Q.rg<|Q.mv U<|S.qu (Z.iC U)<|Q.fa mZ U<|Q.lc 2 bC U U U<|Q.bi U U U<|Q.nt<|S.cF U (decide_eq_false (by omega))<|UW.skip<|UQ.then<|Q.rg<|Q.mv U<|S.qu (Z.iC U)<|Q.fa mZ U<|Q.lc 2 bC U U U<|S.qu (Z.add (r:=((d+1:Nat):Int)) U U (IntWalk.i64_in _ (by omega)))<|S.qu (Z.iC U)<|Q.fa mZ U<|S.s<|D.st 2 bC U U U U U U U U λ_=>Q.nt<|Q.rg<|Q.mv U<|S.qu (Z.iC U)<|Q.fa eu U<|Q.lc 2 bC U U U<|S.qu (Z.add (r:=((q+1:Nat):Int)) U U (IntWalk.i64_in _ (by omega)))<|S.qu (Z.iC U)<|Q.fa eu U<|S.s<|D.st 2 bC U U U U U U U U λ_=>Q.nt<|Q.rg<|Q.mv U<|S.dd<|D.oJ (.cons 2 U .nil) U U (λH hS hD=>hb0 H hD)<|?_
 (rintro _ _ ⟨rfl,rfl⟩;unfold bN)
 refine Q.nt<|S.sq<|Q.rg<|Q.mv U<|Q.mv U<|S.qu (Z.aQ U U (λhd=>hi0 _ (hd.at_ (k:=0) U)))<|S.qu (Z.not U)<|Q.as U<|Q.nt<|UW.block<|S.loop (λj:Nat×Nat×V×Bool=>[(11,.v (.bool j.2.2.2)),(10,.ptr xG 0),(8,.ptr p8 0),(3,.bnd 80 [.ptr p 0]),(1,.v (.string ⟨#[125]⟩)),(0,.ptr p 0)]) (λj=>[(p,.box 60 (gu s j.2.1 (d+1))),(xG,.box 27 (aN j.2.2.1)),(p8,.box 27 (aN zeroV))]) (λj=>Po s q (d+1) f R j.1 j.2.1 j.2.2.1 j.2.2.2) (λj=>j.1) (f,c,.mk 5 0 ⟨#[]⟩ [] [],!(bT s c 125)) hI0 ⟨rfl,rfl,rfl,rfl,rfl,rfl,trivial⟩ (.refl _)<|?_
 rintro⟨g,x,v,more⟩ ⟨hx,hg,hk,hno,hgo⟩
 dsimp only at hx hg hk hno hgo⊢
 have hfit:=hk.fits (by omega)
 cases more with
 |false=>
  have hno:=hno U
  clear hgo
  obtain⟨w0,w1,w2,w3,w4⟩:=v
  cases he:bT s x 125 with
  |true=>
   rw[he,if_pos U] at hno
   subst hno
   have hlt:=bP he
   have hne:=λG hd=>sM p s x d hs hx ⟨#[125]⟩ (by rw[show(⟨#[125]⟩:ByteArray).data.toList=[125] from rfl,qE s x 125 hx];exact he) (by decide) G hd
   refine S.sq<|Q.rg<|Q.mv U<|Q.nt<|S.cF U U<|UW.exit<|UQ.pass<|UQ.pass<|UQ.here<|UQ.then<|Q.rg<|Q.mv U<|S.qu (Z.iC U)<|Q.fa mZ U<|Q.lc 0 bC U U U<|S.qu (Z.sub (r:=((d:Nat):Int)) U U (Eq.trans (IntWalk.i64_in _ (by omega)) (by omega)))<|S.qu (Z.iC U)<|Q.fa mZ U<|S.s<|D.st 0 bC U U U U U U U U λ_=>Q.nt<|S.sq<|?_
   refine' UW.gF (by kernel_rfl) [1] [0,0,0,6,15,31] [some 74,some 75,some 76,none,none,none] [some (74,_),some (75,_),some (76,_),none,none,none] [3,4,5] [] U (by decide) (by decide) (I.kept (by decide) U U ?gY (I.free (by decide) U U ?gZ (I.free (by decide) U U ?iK (I.skip (I.skip (I.skip I.nil)))))) ?oD
   case gY=>(intro _ hK;exact Z.kw 0 hK ay rfl rfl rfl)
   case gZ=>(intro _;exact Z.mv rfl)
   case iK=>(intro _;exact Z.mv rfl)
   refine CH.cons U U (by decide) ?_ (.c 1 U .n)
   refine D.Sm (n0:=[(p,.box 60 (gu s (x+1) d))]) (.cons 0 U .nil) U U (λH hS hD=>hne H hD)<|?_
   refine CH.aV U U ?_ (.c 1 U .n)
   refine D.st 2 ay U U U U U U U U λ_=>?_
   refine CH.cons U U (by decide) ?_ (.c 1 U .n)
   refine D.qu (Z.as U)<|?_
   refine CH.nil ?_ (.c 1 U .n)
   simp only[app,bV]
   refine UQ.then<|UW.ret<|?_
   exact bD [(p,.box 60 (gu s (x+1) d))] (λhd=>ax U (av (k:=2) hd U U bH bI) (Y U)) (by repeat (first|exact List.nil_sublist _|refine .cons_cons _ ?_|refine .cons _ ?_)) λhd=>⟨_,hd,rfl,rfl,rfl⟩
  |false=>
   rw[he,if_neg (by decide)] at hno
   subst hno
   have hne:=λG hd=>Be p s x d hs hx ⟨#[125]⟩ (by rw[show(⟨#[125]⟩:ByteArray).data.toList=[125] from rfl,qE s x 125 hx];exact he) (by decide) G hd
   refine S.sq<|Q.rg<|Q.mv U<|Q.nt<|S.cF U U<|UW.exit<|UQ.pass<|UQ.pass<|UQ.here<|UQ.then<|Q.rg<|Q.mv U<|S.qu (Z.iC U)<|Q.fa mZ U<|Q.lc 0 bC U U U<|S.qu (Z.sub (r:=((d:Nat):Int)) U U (Eq.trans (IntWalk.i64_in _ (by omega)) (by omega)))<|S.qu (Z.iC U)<|Q.fa mZ U<|S.s<|D.st 0 bC U U U U U U U U λ_=>Q.nt<|S.sq<|?_
   refine' UW.gF (by kernel_rfl) [1] [0,0,0,6,15,31] [some 74,some 75,some 76,none,none,none] [some (74,_),some (75,_),some (76,_),none,none,none] [3,4,5] [] U (by decide) (by decide) (I.kept (by decide) U U ?fG (I.free (by decide) U U ?fH (I.free (by decide) U U ?iL (I.skip (I.skip (I.skip I.nil)))))) ?lG
   case fG=>(intro _ hK;exact Z.kw 0 hK ay rfl rfl rfl)
   case fH=>(intro _;exact Z.mv rfl)
   case iL=>(intro _;exact Z.mv rfl)
   refine CH.cons U U (by decide) ?_ (.c 1 U .n)
   refine D.Sm (n0:=[(p,.box 60 (gu s x d))]) (.cons 0 U .nil) U U (λH hS hD=>hne H hD)<|?_
   refine CH.aV U U ?_ (.c 1 U .n)
   refine D.st 2 ay U U U U U U U U λ_=>?_
   refine CH.cons U U (by decide) ?_ (.c 1 U .n)
   refine D.qu (Z.as U)<|?_
   refine CH.nil ?_ (.c 1 U .n)
   simp only[app,bV]
   refine UQ.then<|UW.ret<|?_
   exact bD [(p,.box 60 (gu s x d))] (λhd=>ax U (av (k:=2) hd U U bH bI) (Y U)) (by repeat (first|exact List.nil_sublist _|refine .cons_cons _ ?_|refine .cons _ ?_)) λhd=>⟨_,hd,rfl,.mk w0 w1 w2 w3 w4,d,rfl,rfl⟩
 |true=>
  obtain⟨y,hy0,hym,ZV,hxy,hys,hl,hfu⟩:=hgo rfl
  clear hno hgo
  obtain⟨g,rfl⟩:∃g',g=g'+2:=⟨g-2,by omega⟩
  have hit:=λpv G hG hd=>KF p pv s y (d+1) g hs hys v hfit (ga:=ga) (gb:=gb) (λx' g1 g2=>hV g (by omega) x' (by omega) g2 (by omega)) G hG hd
  rw[dP,if_pos U] at hl
  cases hr:gM s (g+1) y (d+1) v with
  |err e1 q1=>
   rw[hr] at hl hit
   dsimp only at hl
   subst hl
   obtain⟨w0,w1,w2,w3,w4⟩:=v
   have hvl:=aS w4
   have hy0:w4.length=0->y=x:=hy0
   have hym:0<w4.length->bT s x 44=true/\y=aC s (x+1):=hym
   by_cases hm0:w4.length=0
   ·have:=hy0 hm0
    subst this
    unfold bN yw at hit
    refine S.sq<|Q.rg<|Q.mv U<|Q.nt<|S.cT U U<|UW.skip<|UQ.then<|S.sq<|UW.block<|S.sq<|Q.rg<|Q.fa bQ U<|Q.lc 1 dm U U U<|S.qu (Z.iy bR U)<|Q.bi U U U<|Q.nt<|S.cF U (decide_eq_false (by omega))<|UW.skip<|UQ.then<|S.sq<|Q.rg<|Q.mv U<|S.dd<|D.H6 (.cons 0 U (.cons 0 U .nil)) U U (λH hS hD=>hit xG H (hG.mono hS) hD)<|?_
    (rintro _ _ ⟨⟨z0,z1,z2,z3,z4⟩,d1,rfl,rfl⟩;unfold bN yw)
    refine Q.as U<|Q.nt<|Q.rg<|Q.mv U<|S.qu (Z.inT U)<|Q.nt<|S.cT U U<|Q.rg<|S.qu (Z.bg 1 ay U U U)<|Q.mv U<|S.s<|D.st 2 ay U U U U U U U U λ_=>Q.as U<|Q.nt<|UW.ret<|UQ.aj<|UQ.az<|UQ.aj<|UQ.aj<|UQ.az<|UQ.aj<|?_
    exact bD [(p,.box 60 (gu s q1 d1))] (λhd=>ax U (av (k:=2) hd U U bH bI) (Y U)) (by repeat (first|exact List.nil_sublist _|refine .cons_cons _ ?_|refine .cons _ ?_)) λhd=>⟨_,hd,rfl,.mk z0 z1 z2 z3 z4,d1,rfl,rfl⟩
   ·obtain⟨Lj,rfl⟩:=hym (by omega)
    have hb1:=λG hd=>bX p s (x+1) (d+1) hs (by have:=bP Lj;omega) G hd
    have hlt:=bP Lj
    generalize aC s (x+1)=y at*
    unfold bN yw at hit
    refine S.sq<|Q.rg<|Q.mv U<|Q.nt<|S.cT U U<|UW.skip<|UQ.then<|S.sq<|UW.block<|S.sq<|Q.rg<|Q.fa bQ U<|Q.lc 1 dm U U U<|S.qu (Z.iy bR U)<|Q.bi U U U<|Q.nt<|S.cT U (decide_eq_true (by omega))<|Q.rg<|Q.mv U<|S.qu (Z.iC U)<|Q.fa eu U<|Q.lc 0 bC U U U<|S.qu (Z.add (r:=((x+1:Nat):Int)) U U (IntWalk.i64_in _ (by omega)))<|S.qu (Z.iC U)<|Q.fa eu U<|S.s<|D.st 0 bC U U U U U U U U λ_=>Q.nt<|S.rg<|Q.mv U<|S.dd<|D.oJ (.cons 0 U .nil) U U (λH hS hD=>hb1 H hD)<|?_
    (rintro _ _ ⟨rfl,rfl⟩;unfold bN)
    refine Q.nt<|S.sq<|Q.rg<|Q.mv U<|S.dd<|D.H6 (.cons 0 U (.cons 0 U .nil)) U U (λH hS hD=>hit xG H (hG.mono hS) hD)<|?_
    (rintro _ _ ⟨⟨z0,z1,z2,z3,z4⟩,d1,rfl,rfl⟩;unfold bN yw)
    refine Q.as U<|Q.nt<|Q.rg<|Q.mv U<|S.qu (Z.inT U)<|Q.nt<|S.cT U U<|Q.rg<|S.qu (Z.bg 1 ay U U U)<|Q.mv U<|S.s<|D.st 2 ay U U U U U U U U λ_=>Q.as U<|Q.nt<|UW.ret<|UQ.aj<|UQ.az<|UQ.aj<|UQ.aj<|UQ.az<|UQ.aj<|?_
    exact bD [(p,.box 60 (gu s q1 d1))] (λhd=>ax U (av (k:=2) hd U U bH bI) (Y U)) (by repeat (first|exact List.nil_sublist _|refine .cons_cons _ ?_|refine .cons _ ?_)) λhd=>⟨_,hd,rfl,.mk z0 z1 z2 z3 z4,d1,rfl,rfl⟩
  |ok q1 y'=>
   obtain⟨hq1,hq2⟩:=(kM s (g+1)).2.2.2 _ _ _ _ _ hys hr
   have hk2:=(xw s hs (g+1)).2.2.2 _ _ _ _ _ hys (hk.mono hxy) hr
   have hpos:0<y'.vs.length:=Ng hr
   rw[hr] at hl hit
   dsimp only at hl
   have h3:=bu s q1
   have h4:=aX s q1 hq2
   have hb2:=λG hd=>bX p s q1 (d+1) hs hq2 G hd
   have hic:=eB p s (aC s q1) (d+1) hs h4 44 _ U
   have hI2:Po s q (d+1) f R (g+1) (aC s q1) y' (bT s (aC s q1) 44):=by
    refine⟨h4,by omega,hk2.mono h3,λh=>?_,λh=>?_⟩
    ·rw[if_neg (show ¬bT s (aC s q1) 44=true from by rw[h];decide)] at hl
     exact hl.symm
    ·have Zi:=nZ h (show(44:Int)≠125 by decide)
     rw[if_neg (show ¬bT s (aC s q1) (jY true)=true fromλg=>by rw[show bT s (aC s q1) (jY true)=false from Zi] at g;cases g),if_pos h] at hl
     have hlt:=bP h
     have h5:=bu s (aC s q1+1)
     have h6:=aX s (aC s q1+1) (by omega)
     exact⟨_,λh=>absurd h (by omega),λ_=>⟨h,rfl⟩,by omega,by omega,h6,hl,by omega⟩
   generalize aC s q1=c1 at*
   clear hl
   obtain⟨w0,w1,w2,w3,w4⟩:=v
   obtain⟨y0,y1,y2,y3,y4⟩:=y'
   have hvl:=aS w4
   have hy0:w4.length=0->y=x:=hy0
   have hym:0<w4.length->bT s x 44=true/\y=aC s (x+1):=hym
   by_cases hm0:w4.length=0
   ·have:=hy0 hm0
    subst this
    unfold bN yw at hit
    refine S.sq<|Q.rg<|Q.mv U<|Q.nt<|S.cT U U<|UW.skip<|UQ.then<|S.sq<|UW.block<|S.sq<|Q.rg<|Q.fa bQ U<|Q.lc 1 dm U U U<|S.qu (Z.iy bR U)<|Q.bi U U U<|Q.nt<|S.cF U (decide_eq_false (by omega))<|UW.skip<|UQ.then<|S.sq<|Q.rg<|Q.mv U<|S.dd<|D.H6 (.cons 0 U (.cons 0 U .nil)) U U (λH hS hD=>hit xG H (hG.mono hS) hD)<|?_
    (rintro _ _ ⟨rfl,rfl⟩;unfold bN yw)
    refine Q.as U<|Q.nt<|Q.rg<|Q.mv U<|S.qu (Z.BK U)<|Q.nt<|S.cF U U<|UW.skip<|UQ.then<|S.rg<|Q.mv U<|S.dd<|D.oJ (.cons 0 U .nil) U U (λH hS hD=>hb2 H hD)<|?_
    (rintro _ _ ⟨rfl,rfl⟩;unfold bN)
    refine US.nil<|UQ.aI<|UQ.then<|S.rg<|Q.mv U<|S.qu (Z.aQ U U (λhd=>hic _ (hd.at_ (k:=0) U)))<|Q.as U<|US.nil<|?_
    refine S.back (g+1,c1,.mk y0 y1 y2 y3 y4,bT s c1 44) ⟨rfl,rfl,rfl,rfl,rfl,rfl,trivial⟩ (.refl _) (by omega) (by omega)
   ·obtain⟨Lj,rfl⟩:=hym (by omega)
    have hb1:=λG hd=>bX p s (x+1) (d+1) hs (by have:=bP Lj;omega) G hd
    have hlt:=bP Lj
    generalize aC s (x+1)=y at*
    unfold bN yw at hit
    refine S.sq<|Q.rg<|Q.mv U<|Q.nt<|S.cT U U<|UW.skip<|UQ.then<|S.sq<|UW.block<|S.sq<|Q.rg<|Q.fa bQ U<|Q.lc 1 dm U U U<|S.qu (Z.iy bR U)<|Q.bi U U U<|Q.nt<|S.cT U (decide_eq_true (by omega))<|Q.rg<|Q.mv U<|S.qu (Z.iC U)<|Q.fa eu U<|Q.lc 0 bC U U U<|S.qu (Z.add (r:=((x+1:Nat):Int)) U U (IntWalk.i64_in _ (by omega)))<|S.qu (Z.iC U)<|Q.fa eu U<|S.s<|D.st 0 bC U U U U U U U U λ_=>Q.nt<|S.rg<|Q.mv U<|S.dd<|D.oJ (.cons 0 U .nil) U U (λH hS hD=>hb1 H hD)<|?_
    (rintro _ _ ⟨rfl,rfl⟩;unfold bN)
    refine Q.nt<|S.sq<|Q.rg<|Q.mv U<|S.dd<|D.H6 (.cons 0 U (.cons 0 U .nil)) U U (λH hS hD=>hit xG H (hG.mono hS) hD)<|?_
    (rintro _ _ ⟨rfl,rfl⟩;unfold bN yw)
    refine Q.as U<|Q.nt<|Q.rg<|Q.mv U<|S.qu (Z.BK U)<|Q.nt<|S.cF U U<|UW.skip<|UQ.then<|S.rg<|Q.mv U<|S.dd<|D.oJ (.cons 0 U .nil) U U (λH hS hD=>hb2 H hD)<|?_
    (rintro _ _ ⟨rfl,rfl⟩;unfold bN)
    refine US.nil<|UQ.aI<|UQ.then<|S.rg<|Q.mv U<|S.qu (Z.aQ U U (λhd=>hic _ (hd.at_ (k:=0) U)))<|Q.as U<|US.nil<|?_
    refine S.back (g+1,c1,.mk y0 y1 y2 y3 y4,bT s c1 44) ⟨rfl,rfl,rfl,rfl,rfl,rfl,trivial⟩ (.refl _) (by omega) (by omega)
end Go.Proofs.YtbooeongacgnbaaGreatDoor
end
