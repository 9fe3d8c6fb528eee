/- A part of the proof. -/
import Derived.Test.YtbooeongacgnbaaGreatDoorMw34
import Derived.Test.YtbooeongacgnbaaGreatDoorMw20
set_option maxRecDepth 100000
set_option maxHeartbeats 4000000
set_option linter.unusedSectionVars false
set_option linter.unusedVariables false
set_option linter.unusedSimpArgs false
section
namespace Go.Proofs.YtbooeongacgnbaaGreatDoor
open Go Go.gW Go.RowKit
theorem Kv(l:List V)(u:V)(k:Nat)(hk:l.length=k):(bE l).take k++[aN u]=bE (l++[u]):=by
 subst hk
 rw[dY,dY,List.take_of_length_le (by simp),List.map_append];rfl
theorem Dr(l:List V)(u:V):JJ (.mk 4 0 ⟨#[]⟩ [] l) u=.mk 4 0 ⟨#[]⟩ [] (l++[u]):=rfl
structure Il(s:ByteArray)(p d f:Nat)(R:PR)(g q:Nat)(vs:List V)(m:Nat)(e:Int):Prop where
 le:q<=s.size
 fuel:g<=f
 len:m<=s.size+1
 num:vs.length=m
 go:e=0->dP s g q d false (.mk 4 0 ⟨#[]⟩ [] vs)=R/\p<q/\m<=q/\4*(s.size-q)+6<=g
 err:e≠0->R=.err e q
theorem Kw(s:ByteArray)(p d f:Nat)(hs:s.size<=1000000)(hp:p<s.size)(hf:4*(s.size-p)+3<=f+1)
 (hV:∀f',f'<f->∀p',p<p'->p'<=s.size->4*(s.size-p')+4<=f'->VC s d f' p') (H:Hp):F Tryz.prog 63 [.agg (dZ s p d),.v (.int .u8 93)] H (j5 s d H (gJ s (f+1) p d false)):=by
 have hi:∀p c H,F Tryz.prog 62 [.agg (dZ s p d),.v (.int .u8 c)] H (bn H (.v (.bool (bT s p c)))):=λp c H=>ji s p d c hs H
 have h1:=bu s (p+1)
 have h2:=aX s (p+1) (by omega)
 have hb0:∀H,F Tryz.prog 42 [.agg (dZ s (p+1) d)] H (bn H (.agg (dZ s (aC s (p+1)) d))):=λH=>dF s (p+1) d hs (by omega) H
 rw[gJ]
 generalize aC s (p+1)=c at*
 cases hn:bT s c 93 with
 |true=>
  rw[if_pos (show bT s c (jY false)=true from hn)]
  refine aA (n:=71) (H0:=H) (M:=[]) Tryz.func63 (by kernel_rfl) U (by rw[Tryz.ntmps63];rfl) .nil<|?_
  refine Q.rg<|S.dd<|D.box U U U λp2=>S.dd<|D.al z72 U U U λp4=>S.dd<|D.al z27 U U U λp5=>Q.nt<|Q.rg<|S.qu (Z.bd [0] dh U U U U U U)<|S.dd<|D.al z27 U U U λp6=>S.s<|D.st 0 ay U U U U U U U U λ_=>Q.nt<|S.sq<|Q.rg<|Q.mv U<|Q.bi U U U<|Q.nt<|S.cF U (bf (by omega))<|UW.skip<|UQ.then<|Q.rg<|Q.fa bB U<|Q.lc 3 bC U U U<|S.qu (Z.add (r:=((p+1:Nat):Int)) U U (IntWalk.i64_in _ (by omega)))<|Q.fa bB U<|S.s<|D.st 3 bC U U U U U U U U λ_=>Q.nt<|Q.rg<|S.qu (Z.bg 3 aF U U U)<|S.qu (Z.call U U (λH=>hb0 H))<|S.s<|D.st 3 aF U U U U U U U U λ_=>Q.nt<|S.sq<|Q.rg<|S.qu (Z.bg 3 aF U U U)<|Q.mv U<|S.qu (Z.tT (Z.call U U (λH=>hi c 93 H)) hn)<|Q.nt<|S.cT U U<|Q.rg<|Q.fa bB U<|Q.lc 3 bC U U U<|S.qu (Z.add (r:=((c+1:Nat):Int)) U U (IntWalk.i64_in _ (by omega)))<|Q.fa bB U<|S.s<|D.st 3 bC U U U U U U U U λ_=>Q.nt<|S.sq<|?_
  refine' UW.gF (by kernel_rfl) [0] [0,0,1,7] [some 28,some 29,none,none] [some (28,_),some (29,_),none,none] [2,3] [0] U (by decide) (by decide) (I.held (by decide) U U ?jK (I.kept (by decide) U U ?jL (I.skip (I.skip I.nil)))) ?u7
  case jK=>exact Z.bg 3 aF rfl rfl rfl
  case jL=>(intro _ hK;exact Z.kw 0 hK ay rfl rfl rfl)
  refine CH.aV U U ?_ (.c 0 U .n)
  refine D.st 2 aF U U U U U U U U λ_=>?_
  refine CH.aV U U ?_ (.c 0 U .n)
  refine D.st 1 ay U U U U U U U U λ_=>?_
  refine CH.nil ?_ (.c 0 U .n)
  simp only[app,bV]
  refine UQ.then<|UW.ret<|UQ.aj<|?_
  refine S.rt (λhd=>ax U (av (k:=2) hd U U fM fO) (av (k:=1) hd U U bH bI)) ⟨rfl,rfl⟩
 |false=>
  rw[if_neg (show ¬bT s c (jY false)=true fromλh=>by rw[show bT s c (jY false)=false from hn] at h;cases h)]
  generalize hR:dP s f c d false (qP false)=R
  have hI0:Il s p d f R f c [] 0 0:=⟨h2,Nat.le_refl _,Nat.zero_le _,rfl,λ_=>⟨hR,by omega,Nat.zero_le _,by omega⟩,λh=>absurd U h⟩
  refine aA (n:=71) (H0:=H) (M:=[]) Tryz.func63 (by kernel_rfl) U (by rw[Tryz.ntmps63];rfl) .nil<|?_
  refine Q.rg<|S.dd<|D.box U U U λp2=>S.dd<|D.al z72 U U U λp4=>S.dd<|D.al z27 U U U λp5=>Q.nt<|Q.rg<|S.qu (Z.ZB [0] dh U U U U U)<|S.dd<|D.al z27 U U U λp6=>S.s<|D.st 0 ay U U U U U U U U λ_=>?_
  (refine US.vO (sz:=5) 0 4 27 (by decide) U U (λr0=>?_);simp only[List.set_cons_zero,List.set_cons_succ])
  refine Q.nt<|S.sq<|Q.rg<|Q.mv U<|Q.bi U U U<|Q.nt<|S.cF U (bf (by omega))<|UW.skip<|UQ.then<|Q.rg<|Q.fa bB U<|Q.lc 4 bC U U U<|S.qu (Z.add (r:=((p+1:Nat):Int)) U U (IntWalk.i64_in _ (by omega)))<|Q.fa bB U<|S.s<|D.st 4 bC U U U U U U U U λ_=>Q.nt<|Q.rg<|S.qu (Z.bg 4 aF U U U)<|S.qu (Z.call U U (λH=>hb0 H))<|S.s<|D.st 4 aF U U U U U U U U λ_=>Q.nt<|S.sq<|Q.rg<|S.qu (Z.bg 4 aF U U U)<|Q.mv U<|S.qu (Z.tF (Z.call U U (λH=>hi c 93 H)) hn)<|Q.nt<|S.cF U U<|UW.skip<|UQ.then<|S.sq<|UW.block<|S.loop (λj:Nat×Nat×List V×Nat×Int×Nat=>[(6,.ptr p6 0),(5,.ptr p5 0),(4,.ptr p4 0),(2,.ptr p2 0),(1,.v (.int .u8 93))]) (λj=>[(j.2.2.2.2.2,.row 27 5 (bE j.2.2.1)),(p6,.box 27 [.v (.int .i64 4),.v (.int .i64 0),.v (.string ⟨#[]⟩),.v (.slice none 0 0),.own j.2.2.2.2.2 0 j.2.2.2.1 5]),(p5,.box 27 (aN zeroV)),(p4,.box 72 [.v (.string ⟨#[]⟩),.v (.int .i64 0),.v (.int .i64 0),.v (.int .i64 0)]),(p2,.box 72 (tq s j.2.1 j.2.2.2.2.1 d))]) (λj=>Il s p d f R j.1 j.2.1 j.2.2.1 j.2.2.2.1 j.2.2.2.2.1) (λj=>j.1) (f,c,[],0,0,r0) hI0 ⟨rfl,rfl,rfl,rfl,rfl,trivial⟩ (.refl _)<|?_
  rintro⟨g,q,vs,m,e,r⟩ ⟨hq,hg,hlen,Bu,hgo,Ku⟩
  dsimp only at hq hg hlen Bu hgo Ku⊢
  have hvl:=aS vs
  by_cases he:e=0
  ·subst he
   obtain⟨hl,hpq,hk,hfu⟩:=hgo rfl
   clear hgo Ku
   obtain⟨g,rfl⟩:∃g',g=g'+2:=⟨g-2,by omega⟩
   have hfl:=(xg s (g+1)).1 q d
   have Pb:=hV (g+1) (by omega) q hpq hq (by omega)
   unfold VC at Pb
   rw[dP,if_neg (by decide)] at hl
   have hpush:∀u,(bE vs).take m++[aN u]=bE (vs++[u]):=λu=>Kv vs u m Bu
   have hpl:∀u,(bE (vs++[u])).length=m+1:=λu=>by rw[aS,List.length_append,Bu];rfl
   have Pd:∀u,((bE (vs++[u])).drop 0).take (m+1)=bE (vs++[u]):=λu=>by rw[List.drop_zero,List.take_of_length_le (Nat.le_of_eq (hpl u))]
   cases hr:fQ s (g+1) q d with
   |err e1 q1=>
    rw[hr] at hl Pb
    have he1:e1≠0:=λh=>hfl q1 hq (by omega) (by rw[hr,h])
    dsimp only at hl
    subst hl
    have hle1:q1<=s.size:=(FO s (g+1)).1 _ _ _ _ hq hr
    have hI1:∀u,Il s p d f (.err e1 q1) (g+1) q1 (vs++[u]) (m+1) e1:=λu=>⟨hle1,by omega,by omega,by rw[List.length_append,Bu];rfl,λh=>absurd h he1,λ_=>rfl⟩
    refine S.sq<|Q.rg<|Q.fa dz U<|Q.lc 4 bC U U U<|Q.bi U U U<|Q.nt<|S.cT U (cZ (by omega))<|UW.skip<|UQ.then<|UW.block<|S.sq<|Q.rg<|Q.mv U<|Q.bi U U U<|Q.nt<|S.cF U (bf (by omega))<|Q.rg<|S.qu (Z.bg 4 aF U U U)<|S.dd<|D.co .nil U U (λG hD=>Bq Pb G hD)<|?_
    (rintro _ _ ⟨rfl,u,rfl⟩;have hI:=hI1 u)
    refine Q.mv U<|S.qu (Z.ex U U)<|S.qu (Z.ex U U)<|S.dd<|D.al z72 U U U λp9=>S.dd<|D.al z27 U U U λxG=>S.s<|D.st 1 aF U U U U U U U U λ_=>S.s<|D.l8 0 ay U U U U (by exact aH _) (ak _) U U λ_=>?_
    refine Q.nt<|Q.rg<|S.qu (Z.bg 1 aF U U U)<|S.s<|D.st 6 aF U U U U U U U U λ_=>Q.nt<|S.rg<|Q.fa bQ U<|Q.lc 3 dm U U U<|S.qu (Z.bg 0 ay U U (ak _))<|S.qu (Z.bl iw U U (by intro cs h;cases List.mem_singleton.1 h;exact⟨by first|rfl|exact aH _,by first|rfl|exact ak _⟩))<|?_
    refine S.dd<|D.ap 2 iw U U (by omega) U (.sl (by intro cs h;cases List.mem_singleton.1 h;exact ak _)) (by first|omega|(simp;omega)) (hpush u) λp53=>?_
    refine Q.fa bQ U<|S.s<|D.st 3 dm U U U U U U U U λ_=>Q.nt<|Q.rg<|S.qu (Z.bg 6 aF U U U)<|S.qu (Z.call U U (λH=>fq s q1 d e1 he1 H))<|S.s<|D.st 6 aF U U U U U U U U λ_=>Q.nt<|S.sq<|Q.rg<|S.qu (Z.bg 6 aF U U U)<|Q.mv U<|S.qu (Z.tF (Z.call U U (λH=>AQ s q1 d e1 he1 93 H)) U)<|Q.nt<|S.cF U U<|UW.skip<|UQ.then<|S.rg<|S.qu (Z.bg 6 aF U U U)<|S.qu (Z.call U U (λH=>uV s q1 d e1 he1 44 H))<|S.qu (Z.call U U (λH=>fq s q1 d e1 he1 H))<|S.s<|D.st 6 aF U U U U U U U U λ_=>US.nil<|UQ.aI<|?_
    refine S.back (g+1,q1,vs++[u],m+1,e1,p53) ⟨rfl,rfl,rfl,rfl,rfl,trivial⟩ (by repeat (first|exact List.Sublist.refl _|exact List.nil_sublist _|refine .cons_cons _ ?_|refine .cons _ ?_)) (by omega) (by omega)
   |ok q1 w=>
    obtain⟨hq1,hq2⟩:=(kM s (g+1)).1 _ _ _ _ hq hr
    rw[hr] at hl Pb
    dsimp only at hl
    rw[Dr] at hl
    have hpush:=hpush w
    have hpl:=hpl w
    have Pd:=Pd w
    have LA:(vs++[w]).length=m+1:=by rw[List.length_append,Bu];rfl
    generalize vs++[w]=ws at*
    have hb1:∀H,F Tryz.prog 42 [.agg (dZ s q1 d)] H (bn H (.agg (dZ s (aC s q1) d))):=λH=>dF s q1 d hs (by omega) H
    have h3:=bu s q1
    have h4:=aX s q1 hq2
    generalize aC s q1=c1 at*
    cases hn1:bT s c1 93 with
    |true=>
     rw[if_pos (show bT s c1 (jY false)=true from hn1)] at hl
     subst hl
     have hlt:=bP hn1
     refine S.sq<|Q.rg<|Q.fa dz U<|Q.lc 4 bC U U U<|Q.bi U U U<|Q.nt<|S.cT U (cZ (by omega))<|UW.skip<|UQ.then<|UW.block<|S.sq<|Q.rg<|Q.mv U<|Q.bi U U U<|Q.nt<|S.cF U (bf (by omega))<|Q.rg<|S.qu (Z.bg 4 aF U U U)<|S.qu (Z.call U U (λH=>Dq Pb H))<|Q.mv U<|S.qu (Z.ex U U)<|S.qu (Z.ex U U)<|S.dd<|D.al z72 U U U λp9=>S.dd<|D.al z27 U U U λxG=>S.s<|D.st 1 aF U U U U U U U U λ_=>S.s<|D.l8 0 ay U U U U (by exact aH _) (ak _) U U λ_=>?_
     refine Q.nt<|Q.rg<|S.qu (Z.bg 1 aF U U U)<|S.s<|D.st 6 aF U U U U U U U U λ_=>Q.nt<|S.rg<|Q.fa bQ U<|Q.lc 3 dm U U U<|S.qu (Z.bg 0 ay U U (ak _))<|S.qu (Z.bl iw U U (by intro cs h;cases List.mem_singleton.1 h;exact⟨by first|rfl|exact aH _,by first|rfl|exact ak _⟩))<|?_
     refine S.dd<|D.ap 2 iw U U (by omega) U (.sl (by intro cs h;cases List.mem_singleton.1 h;exact ak _)) (by first|omega|(simp;omega)) hpush λp53=>?_
     refine Q.fa bQ U<|S.s<|D.st 3 dm U U U U U U U U λ_=>Q.nt<|Q.rg<|S.qu (Z.bg 6 aF U U U)<|S.qu (Z.call U U (λH=>hb1 H))<|S.s<|D.st 6 aF U U U U U U U U λ_=>Q.nt<|S.sq<|Q.rg<|S.qu (Z.bg 6 aF U U U)<|Q.mv U<|S.qu (Z.tT (Z.call U U (λH=>hi c1 93 H)) hn1)<|Q.nt<|S.cT U U<|Q.rg<|Q.fa bB U<|Q.lc 6 bC U U U<|S.qu (Z.add (r:=((c1+1:Nat):Int)) U U (IntWalk.i64_in _ (by omega)))<|Q.fa bB U<|S.s<|D.st 6 bC U U U U U U U U λ_=>Q.nt<|UW.o6 2 4 0 U U U (by simp only[List.length_singleton];omega) Pd U<|?_
     refine S.sq<|?_
     refine' UW.gF (by kernel_rfl) [2] [0,0,1,7] [some 64,some 65,none,none] [some (64,_),some (65,_),none,none] [2,3] [0] U (by decide) (by decide) (I.held (by decide) U U ?ic (I.kept (by decide) U U ?ig (I.skip (I.skip I.nil)))) ?oF
     case ic=>exact Z.bg 5 aF rfl rfl rfl
     case ig=>(intro _ hK;exact Z.kw 0 hK ay rfl rfl rfl)
     refine CH.aV U U ?_ (.c 2 U .n)
     refine D.st 4 aF U U U U U U U U λ_=>?_
     refine CH.aV U U ?_ (.c 2 U .n)
     refine D.st 3 ay U U U U U U U U λ_=>?_
     refine CH.nil ?_ (.c 2 U .n)
     simp only[app,bV]
     refine UQ.then<|UW.ret<|UQ.aj<|UQ.az<|UQ.aj<|UQ.az<|UQ.aj<|?_
     refine S.rt (λhd=>ax U (av (k:=4) hd U U fM fO) (av (k:=3) hd U U bH bI)) ⟨rfl,rfl⟩
    |false=>
     rw[if_neg (show ¬bT s c1 (jY false)=true fromλh=>by rw[show bT s c1 (jY false)=false from hn1] at h;cases h)] at hl
     have hne:=mY s c1 d 44 hs (by omega)
     cases hn2:bT s c1 44 with
     |true=>
      rw[if_pos hn2] at hl
      rw[hn2,if_pos U] at hne
      have hlt:=bP hn2
      have hb2:∀H,F Tryz.prog 42 [.agg (dZ s (c1+1) d)] H (bn H (.agg (dZ s (aC s (c1+1)) d))):=λH=>dF s (c1+1) d hs (by omega) H
      have h5:=bu s (c1+1)
      have h6:=aX s (c1+1) (by omega)
      generalize aC s (c1+1)=c2 at*
      have hI2:Il s p d f R (g+1) c2 ws (m+1) 0:=⟨h6,by omega,by omega,LA,λ_=>⟨hl,by omega,by omega,by omega⟩,λh=>absurd U h⟩
      refine S.sq<|Q.rg<|Q.fa dz U<|Q.lc 4 bC U U U<|Q.bi U U U<|Q.nt<|S.cT U (cZ (by omega))<|UW.skip<|UQ.then<|UW.block<|S.sq<|Q.rg<|Q.mv U<|Q.bi U U U<|Q.nt<|S.cF U (bf (by omega))<|Q.rg<|S.qu (Z.bg 4 aF U U U)<|S.qu (Z.call U U (λH=>Dq Pb H))<|Q.mv U<|S.qu (Z.ex U U)<|S.qu (Z.ex U U)<|S.dd<|D.al z72 U U U λp9=>S.dd<|D.al z27 U U U λxG=>S.s<|D.st 1 aF U U U U U U U U λ_=>S.s<|D.l8 0 ay U U U U (by exact aH _) (ak _) U U λ_=>?_
      refine Q.nt<|Q.rg<|S.qu (Z.bg 1 aF U U U)<|S.s<|D.st 6 aF U U U U U U U U λ_=>Q.nt<|S.rg<|Q.fa bQ U<|Q.lc 3 dm U U U<|S.qu (Z.bg 0 ay U U (ak _))<|S.qu (Z.bl iw U U (by intro cs h;cases List.mem_singleton.1 h;exact⟨by first|rfl|exact aH _,by first|rfl|exact ak _⟩))<|?_
      refine S.dd<|D.ap 2 iw U U (by omega) U (.sl (by intro cs h;cases List.mem_singleton.1 h;exact ak _)) (by first|omega|(simp;omega)) hpush λp53=>?_
      refine Q.fa bQ U<|S.s<|D.st 3 dm U U U U U U U U λ_=>Q.nt<|Q.rg<|S.qu (Z.bg 6 aF U U U)<|S.qu (Z.call U U (λH=>hb1 H))<|S.s<|D.st 6 aF U U U U U U U U λ_=>Q.nt<|S.sq<|Q.rg<|S.qu (Z.bg 6 aF U U U)<|Q.mv U<|S.qu (Z.tF (Z.call U U (λH=>hi c1 93 H)) hn1)<|Q.nt<|S.cF U U<|UW.skip<|UQ.then<|S.rg<|S.qu (Z.bg 6 aF U U U)<|S.qu (Z.call U U (λH=>hne H))<|S.qu (Z.call U U (λH=>hb2 H))<|S.s<|D.st 6 aF U U U U U U U U λ_=>US.nil<|UQ.aI<|?_
      refine S.back (g+1,c2,ws,m+1,0,p53) ⟨rfl,rfl,rfl,rfl,rfl,trivial⟩ (by repeat (first|exact List.Sublist.refl _|exact List.nil_sublist _|refine .cons_cons _ ?_|refine .cons _ ?_)) (by omega) (by omega)
     |false=>
      rw[if_neg (by rw[hn2];decide)] at hl
      rw[hn2,if_neg (by decide)] at hne
      have h11:(11:Int)≠0:=by decide
      have hI3:Il s p d f R (g+1) c1 ws (m+1) 11:=⟨h4,by omega,by omega,LA,λh=>absurd h h11,λ_=>hl.symm⟩
      refine S.sq<|Q.rg<|Q.fa dz U<|Q.lc 4 bC U U U<|Q.bi U U U<|Q.nt<|S.cT U (cZ (by omega))<|UW.skip<|UQ.then<|UW.block<|S.sq<|Q.rg<|Q.mv U<|Q.bi U U U<|Q.nt<|S.cF U (bf (by omega))<|Q.rg<|S.qu (Z.bg 4 aF U U U)<|S.qu (Z.call U U (λH=>Dq Pb H))<|Q.mv U<|S.qu (Z.ex U U)<|S.qu (Z.ex U U)<|S.dd<|D.al z72 U U U λp9=>S.dd<|D.al z27 U U U λxG=>S.s<|D.st 1 aF U U U U U U U U λ_=>S.s<|D.l8 0 ay U U U U (by exact aH _) (ak _) U U λ_=>?_
      refine Q.nt<|Q.rg<|S.qu (Z.bg 1 aF U U U)<|S.s<|D.st 6 aF U U U U U U U U λ_=>Q.nt<|S.rg<|Q.fa bQ U<|Q.lc 3 dm U U U<|S.qu (Z.bg 0 ay U U (ak _))<|S.qu (Z.bl iw U U (by intro cs h;cases List.mem_singleton.1 h;exact⟨by first|rfl|exact aH _,by first|rfl|exact ak _⟩))<|?_
      refine S.dd<|D.ap 2 iw U U (by omega) U (.sl (by intro cs h;cases List.mem_singleton.1 h;exact ak _)) (by first|omega|(simp;omega)) hpush λp53=>?_
      refine Q.fa bQ U<|S.s<|D.st 3 dm U U U U U U U U λ_=>Q.nt<|Q.rg<|S.qu (Z.bg 6 aF U U U)<|S.qu (Z.call U U (λH=>hb1 H))<|S.s<|D.st 6 aF U U U U U U U U λ_=>Q.nt<|S.sq<|Q.rg<|S.qu (Z.bg 6 aF U U U)<|Q.mv U<|S.qu (Z.tF (Z.call U U (λH=>hi c1 93 H)) hn1)<|Q.nt<|S.cF U U<|UW.skip<|UQ.then<|S.rg<|S.qu (Z.bg 6 aF U U U)<|S.qu (Z.call U U (λH=>hne H))<|S.qu (Z.call U U (λH=>fq s c1 d 11 h11 H))<|S.s<|D.st 6 aF U U U U U U U U λ_=>US.nil<|UQ.aI<|?_
      refine S.back (g+1,c1,ws,m+1,11,p53) ⟨rfl,rfl,rfl,rfl,rfl,trivial⟩ (by repeat (first|exact List.Sublist.refl _|exact List.nil_sublist _|refine .cons_cons _ ?_|refine .cons _ ?_)) (by omega) (by omega)
  ·have hR2:=Ku he
   subst hR2
   have Pd:((bE vs).drop 0).take m=bE vs:=by rw[List.drop_zero,List.take_of_length_le (by omega)]
   refine S.sq<|Q.rg<|Q.fa dz U<|Q.lc 4 bC U U U<|Q.bi U U U<|Q.nt<|S.cF U (bf (by omega))<|UW.exit<|UQ.pass<|UQ.pass<|UQ.here<|UQ.then<|UW.o6 0 4 0 U U U (by omega) Pd U<|S.sq<|?_
   refine' UW.gF (by kernel_rfl) [0] [0,0,1,7] [some 69,some 70,none,none] [some (69,_),some (70,_),none,none] [2,3] [0] U (by decide) (by decide) (I.held (by decide) U U ?jH (I.kept (by decide) U U ?jI (I.skip (I.skip I.nil)))) ?uC
   case jH=>exact Z.bg 3 aF rfl rfl rfl
   case jI=>(intro _ hK;exact Z.kw 0 hK ay rfl rfl rfl)
   refine CH.aV U U ?_ (.c 0 U .n)
   refine D.st 2 aF U U U U U U U U λ_=>?_
   refine CH.aV U U ?_ (.c 0 U .n)
   refine D.st 1 ay U U U U U U U U λ_=>?_
   refine CH.nil ?_ (.c 0 U .n)
   simp only[app,bV]
   refine UQ.then<|UW.ret<|?_
   refine S.rt (λhd=>ax U (av (k:=2) hd U U fM fO) (av (k:=1) hd U U bH bI)) ⟨rfl,.mk 4 0 ⟨#[]⟩ [] vs,rfl⟩
theorem Ky(s:ByteArray)(p d f:Nat)(ob:Bool)(hs:s.size<=1000000)(hp:p<s.size)(hf:4*(s.size-p)+3<=f+1)
 (hV:∀f',f'<f->∀p',p<p'->p'<=s.size->4*(s.size-p')+4<=f'->VC s d f' p') (H:Hp):F Tryz.prog 63 [.agg (dZ s p d),.v (.int .u8 (jY ob))] H (j5 s d H (gJ s (f+1) p d ob)):=by
 cases ob with
 |true=>exact Kt s p d f hs hp hf hV H
 |false=>exact Kw s p d f hs hp hf hV H
theorem nZ{s:ByteArray}{p:Nat}{a:Int}(h:bT s p a=true){b:Int}(hne:a≠b):bT s p b=false:=by
 unfold bT at h⊢
 obtain⟨h1,h2⟩:=Bool.and_eq_true_iff.1 h
 rw[eq_of_beq h2,h1,Bool.true_and]
 exact beq_eq_false_iff_ne.2 hne
theorem Dt{s:ByteArray}{d:Nat}{H:Hp}{r:PR}{u:AV}{H':Hp}(h:bn H (JO s d r) u H'):j5 s d H r u H':=by
 cases r with
 |err e q=>exact⟨h.2,zeroV,h.1⟩
 |ok q v=>exact⟨h.2,h.1⟩
theorem Nb(s:ByteArray)(hs:s.size<=1000000):∀f p d,p<=s.size->d<=32->4*(s.size-p)+4<=f->VC s d f p:=by
 intro f
 induction f using Nat.strongRecOn with
 |ind f ih=>
  intro p d hp hd hf H
  obtain⟨f,rfl⟩:∃f',f=f'+1:=⟨f-1,by omega⟩
  rw[fQ]
  by_cases hb:bT s p 91=true\/bT s p 123=true
  ·rw[if_pos hb]
   have hlt:p<s.size:=hb.elim bP bP
   by_cases hdd:32<=d
   ·rw[if_pos hdd]
    have:d=32:=by omega
    exact(Ig s p d hs hdd hb H).mono λu H' h=>⟨h.2,zeroV,h.1⟩
   ·rw[if_neg hdd]
    obtain⟨f,rfl⟩:∃f',f=f'+1:=⟨f-1,by omega⟩
    have hm:=λob=>Ky s p (d+1) f ob hs hlt (by omega) (λf' h1 p' h2 h3 h4=>ih f' (by omega) p' (d+1) h3 (by omega) h4)
    rcases hb with hb|hb
    ·have hn:=nZ hb (show(91:Int)≠123 by decide)
     rw[hn]
     have hm:=hm false
     cases hr:gJ s (f+1) p (d+1) false with
     |err e q=>rw[hr] at hm;exact Km s p d q e hs (by omega) hb hn hm H
     |ok q v=>rw[hr] at hm;exact M5 s p d q v hs (by omega) hb hn hm H
    ·have hn:=nZ hb (show(123:Int)≠91 by decide)
     rw[hb]
     have hm:=hm true
     cases hr:gJ s (f+1) p (d+1) true with
     |err e q=>rw[hr] at hm;exact Kn s p d q e hs (by omega) hb hn hm H
     |ok q v=>rw[hr] at hm;exact M6 s p d q v hs (by omega) hb hn hm H
  ·rw[if_neg hb]
   have h1:bT s p 91=false:=by
    cases h:bT s p 91 with
    |false=>rfl
    |true=>exact absurd (.inl h) hb
   have h2:bT s p 123=false:=by
    cases h:bT s p 123 with
    |false=>rfl
    |true=>exact absurd (.inr h) hb
   cases h3:bT s p 34 with
   |true=>
    rw[if_pos U]
    have h:=Ib s p d hs hp h1 h2 h3 H
    cases hu:gV (s.extract p s.size) with
    |none=>
     rw[hu] at h
     exact h.mono λu H' h=>⟨h.2,_,h.1⟩
    |some tn=>
     obtain⟨t,n⟩:=tn
     rw[hu] at h
     exact h.mono λu H' h=>⟨h.2,h.1⟩
   |false=>
    rw[if_neg (by decide)]
    by_cases h4:bT s p 45=true\/0<aT s p
    ·rw[if_pos h4]
     exact(Ic s p d hs hp h1 h2 h3 h4 H).mono λu H' h=>Dt h
    ·rw[if_neg h4]
     have h5:bT s p 45=false:=by
      cases h:bT s p 45 with
      |false=>rfl
      |true=>exact absurd (.inl h) h4
     exact(Ie s p d hs hp h1 h2 h3 h5 (by omega) H).mono λu H' h=>Dt h
def Bv(r:V×Int×Int):AV:=.dH [.agg (aN r.1),.v (.int .i64 r.2.1),.v (.int .i64 r.2.2)]
theorem Pe(s:ByteArray)(hs:65536<s.size)(H:Hp):F Tryz.prog 27 [.v (.string s)] H (bn H (Bv (zeroV,3,0))):=by
 refine aA (n:=48) (H0:=H) (M:=[]) Tryz.func27 (by kernel_rfl) U (by rw[Tryz.ntmps27];rfl) .nil<|?_
 refine Q.rg<|S.dd<|D.al z27 U U U λp2=>Q.as U<|Q.as U<|Q.nt<|S.sq<|Q.rg<|Q.mv U<|S.qu (Z.fC Tryz.underlying9 U)<|Q.bi U U U<|Q.nt<|S.cT U (decide_eq_true (by omega))<|Q.rg<|S.qu (Z.bd [] dh U U U U U U)<|S.s<|D.st 0 ay U U U U U U U U λ_=>Q.as U<|Q.as U<|Q.nt<|UW.ret<|UQ.aj<|S.bG (λhd=>jS U (by decide) U (bL (av (k:=0) hd U U bH bI) (bL (Y U) (bL (Y U) (je)))))<|?_
 rfl
theorem Pf(s:ByteArray)(hs:s.size<=65536)(hck:0<=nu s)(H:Hp):F Tryz.prog 27 [.v (.string s)] H (bn H (Bv (zeroV,10,nu s))):=by
 have hc:∀H,F Tryz.prog 24 [.v (.string s)] H (bn H (.v (.int .i64 (nu s)))):=λH=>fo s (by omega) H
 generalize nu s=ck at*
 refine aA (n:=48) (H0:=H) (M:=[]) Tryz.func27 (by kernel_rfl) U (by rw[Tryz.ntmps27];rfl) .nil<|?_
 refine Q.rg<|S.dd<|D.al z27 U U U λp2=>Q.as U<|Q.as U<|Q.nt<|S.sq<|Q.rg<|Q.mv U<|S.qu (Z.fC Tryz.underlying9 U)<|Q.bi U U U<|Q.nt<|S.cF U (decide_eq_false (by omega))<|UW.skip<|UQ.then<|Q.rg<|Q.mv U<|S.qu (Z.call U U (λH=>hc H))<|Q.as U<|Q.nt<|S.sq<|Q.rg<|Q.mv U<|Q.bi U U U<|Q.nt<|S.cT U (decide_eq_true (by omega))<|Q.rg<|S.qu (Z.bd [] dh U U U U U U)<|Q.mv U<|S.s<|D.st 0 ay U U U U U U U U λ_=>Q.as U<|Q.as U<|Q.nt<|UW.ret<|UQ.aj<|S.bG (λhd=>jS U (by decide) U (bL (av (k:=0) hd U U bH bI) (bL (Y U) (bL (Y U) (je)))))<|?_
 rfl
theorem Pg(s:ByteArray)(hs:s.size<=65536)(hck:nu s<0)(e:Int)(he:e≠0)(q:Nat)
 (hval:∀H,F Tryz.prog 43 [.agg (dZ s (aC s 0) 0)] H (j5 s 0 H (.err e q))) (H:Hp):F Tryz.prog 27 [.v (.string s)] H (bn H (Bv (zeroV,e,q))):=by
 have hc:∀H,F Tryz.prog 24 [.v (.string s)] H (bn H (.v (.int .i64 (nu s)))):=λH=>fo s (by omega) H
 have hb0:∀H,F Tryz.prog 42 [.agg (dZ s 0 0)] H (bn H (.agg (dZ s (aC s 0) 0))):=λH=>dF s 0 0 (by omega) (Nat.zero_le _) H
 generalize aC s 0=c at*
 generalize nu s=ck at*
 refine aA (n:=48) (H0:=H) (M:=[]) Tryz.func27 (by kernel_rfl) U (by rw[Tryz.ntmps27];rfl) .nil<|?_
 refine Q.rg<|S.dd<|D.al z27 U U U λp2=>Q.as U<|Q.as U<|Q.nt<|S.sq<|Q.rg<|Q.mv U<|S.qu (Z.fC Tryz.underlying9 U)<|Q.bi U U U<|Q.nt<|S.cF U (decide_eq_false (by omega))<|UW.skip<|UQ.then<|Q.rg<|Q.mv U<|S.qu (Z.call U U (λH=>hc H))<|Q.as U<|Q.nt<|S.sq<|Q.rg<|Q.mv U<|Q.bi U U U<|Q.nt<|S.cF U (decide_eq_false (by omega))<|UW.skip<|UQ.then<|Q.rg<|Q.mv U<|S.qu (Z.bd [0] Ug U U U U U U)<|S.qu (Z.call U U (λH=>hb0 H))<|S.dd<|D.co .nil U U (λG hD=>Bq hval G hD)<|?_
 (rintro _ _ ⟨rfl,u,rfl⟩)
 refine Q.mv U<|S.qu (Z.ex U U)<|S.qu (Z.ex U U)<|S.dd<|D.al z72 U U U λp6=>S.dd<|D.al z27 U U U λp7=>S.s<|D.st 1 aF U U U U U U U U λ_=>S.s<|D.l8 0 ay U U U U (by exact aH _) (ak _) U U λ_=>?_
 refine Q.nt<|Q.rg<|S.qu (Z.bg 1 aF U U U)<|S.qu (Z.call U U (λH=>fq s q 0 e he H))<|S.s<|D.st 1 aF U U U U U U U U λ_=>Q.nt<|S.sq<|Q.rg<|Q.fa dz U<|Q.lc 1 bC U U U<|Q.bi U U U<|Q.mv U<|S.tF 30 (bf (by omega))<|Q.of<|Q.of<|Q.of<|Q.of<|Q.of<|Q.pk U U<|Q.nt<|S.cF U U<|UW.skip<|UQ.then<|S.sq<|Q.rg<|Q.fa dz U<|Q.lc 1 bC U U U<|Q.bi U U U<|Q.nt<|S.cT U (jM (by omega))<|S.sq<|?_
 refine' UW.gF (by kernel_rfl) [0,1,2] [0,0,2,0,8,1,39,127] [some 42,some 43,some 44,some 45,some 46,none,none,none] [some (42,_),some (43,_),some (44,_),some (45,_),some (46,_),none,none,none] [5,6,7] [] U (by decide) (by decide) (I.free (by decide) U U ?fG (I.free (by decide) U U ?fH (I.kept (by decide) U U ?iL (I.free (by decide) U U ?jF (I.kept (by decide) U U ?jG (I.skip (I.skip (I.skip I.nil)))))))) ?lG
 case fG=>(intro _;exact Z.bd [] dh rfl rfl rfl rfl rfl rfl)
 case fH=>(intro _;exact Z.fa dz rfl)
 case iL=>(intro _ hK;exact Z.kc 1 hK bC rfl rfl rfl)
 case jF=>(intro _;exact Z.fa bB rfl)
 case jG=>(intro _ hK;exact Z.kc 1 hK bC rfl rfl rfl)
 refine CH.aV U U ?_ (.c 0 U (.c 1 U (.c 2 U .n)))
 refine D.st 2 ay U U U U U U U U λ_=>?_
 refine CH.cons U U (by decide) ?_ (.c 0 U (.c 1 U (.c 2 U .n)))
 refine D.qu (Z.as U)<|?_
 refine CH.cons U U (by decide) ?_ (.c 0 U (.c 1 U (.c 2 U .n)))
 refine D.qu (Z.as U)<|?_
 refine CH.nil ?_ (.c 0 U (.c 1 U (.c 2 U .n)))
 simp only[app,bV]
 refine UQ.then<|UW.ret<|UQ.aj<|S.bG (λhd=>jS U (by decide) U (bL (av (k:=2) hd U U bH bI) (bL (Y U) (bL (Y U) (je)))))<|?_
 rfl
theorem Ph(s:ByteArray)(hs:s.size<=65536)(hck:nu s<0)(v:V)(q:Nat)(hq:q<=s.size)
 (hval:∀H,F Tryz.prog 43 [.agg (dZ s (aC s 0) 0)] H (j5 s 0 H (.ok q v))) (H:Hp):F Tryz.prog 27 [.v (.string s)] H (bn H (Bv (if aC s q<s.size then(zeroV,11,(aC s q:Int)) else(v,0,0)))):=by
 have hc:∀H,F Tryz.prog 24 [.v (.string s)] H (bn H (.v (.int .i64 (nu s)))):=λH=>fo s (by omega) H
 have hb0:∀H,F Tryz.prog 42 [.agg (dZ s 0 0)] H (bn H (.agg (dZ s (aC s 0) 0))):=λH=>dF s 0 0 (by omega) (Nat.zero_le _) H
 have hb1:∀H,F Tryz.prog 42 [.agg (dZ s q 0)] H (bn H (.agg (dZ s (aC s q) 0))):=λH=>dF s q 0 (by omega) hq H
 have hf:∀H,F Tryz.prog 44 [.agg (dZ s (aC s q) 0),.v (.int .i64 11)] H (bn H (.agg (tq s (aC s q) 11 0))):=λH=>jJ s (aC s q) 0 0 11 H
 generalize aC s 0=c at*
 generalize aC s q=c1 at*
 generalize nu s=ck at*
 cases v with
 |mk k n t ks vs=>
 by_cases hlt:c1<s.size
 ·rw[if_pos hlt]
  refine aA (n:=48) (H0:=H) (M:=[]) Tryz.func27 (by kernel_rfl) U (by rw[Tryz.ntmps27];rfl) .nil<|?_
  focus
   refine Q.rg<|S.dd<|D.al z27 U U U λp2=>Q.as U<|Q.as U<|Q.nt<|S.sq<|Q.rg<|Q.mv U<|S.qu (Z.fC Tryz.underlying9 U)<|Q.bi U U U<|Q.nt<|S.cF U (decide_eq_false (by omega))<|UW.skip<|UQ.then<|Q.rg<|Q.mv U<|S.qu (Z.call U U (λH=>hc H))<|Q.as U<|Q.nt<|S.sq<|Q.rg<|Q.mv U<|Q.bi U U U<|Q.nt<|S.cF U (decide_eq_false (by omega))<|UW.skip<|UQ.then<|Q.rg<|Q.mv U<|S.qu (Z.bd [0] Ug U U U U U U)<|S.qu (Z.call U U (λH=>hb0 H))<|S.qu (Z.call U U (λH=>Dq hval H))<|Q.mv U<|S.qu (Z.ex U U)<|S.qu (Z.ex U U)<|S.dd<|D.al z72 U U U λp6=>S.dd<|D.al z27 U U U λp7=>S.s<|D.st 1 aF U U U U U U U U λ_=>S.s<|D.st 0 ay U U U U U U U U λ_=>Q.nt<|Q.rg<|S.qu (Z.bg 1 aF U U U)<|S.qu (Z.call U U (λH=>hb1 H))<|S.s<|D.st 1 aF U U U U U U U U λ_=>Q.nt<|S.sq<|Q.rg<|Q.fa dz U<|Q.lc 1 bC U U U<|Q.bi U U U<|Q.mv U<|?_
   refine S.tE 30 (λFJ=>?_) (λFJ=>?_)
   rotate_left
   omega
   refine Q.on (Z.fa bB U)<|Q.on (Z.dQ 1 bC U U U)<|Q.on (Z.mv U)<|Q.on (Z.fC Tryz.underlying9 U)<|Q.on (Z.bi U U U)<|Q.pk U U<|Q.nt<|S.cT U (decide_eq_true (by omega))<|S.rg<|S.qu (Z.bg 1 aF U U U)<|S.qu (Z.call U U (λH=>hf H))<|S.s<|D.st 1 aF U U U U U U U U λ_=>Q.nt<|S.sq<|Q.rg<|Q.fa dz U<|Q.lc 1 bC U U U<|Q.bi U U U<|Q.nt<|S.cT U (jM (by omega))<|S.sq<|?_
   refine' UW.gF (by kernel_rfl) [0,1,2] [0,0,2,0,8,1,39,127] [some 42,some 43,some 44,some 45,some 46,none,none,none] [some (42,_),some (43,_),some (44,_),some (45,_),some (46,_),none,none,none] [5,6,7] [] U (by decide) (by decide) (I.free (by decide) U U ?ic (I.free (by decide) U U ?ig (I.kept (by decide) U U ?mX (I.free (by decide) U U ?qj (I.kept (by decide) U U ?ql (I.skip (I.skip (I.skip I.nil)))))))) ?oF
   case ic=>(intro _;exact Z.bd [] dh rfl rfl rfl rfl rfl rfl)
   case ig=>(intro _;exact Z.fa dz rfl)
   case mX=>(intro _ hK;exact Z.kc 1 hK bC rfl rfl rfl)
   case qj=>(intro _;exact Z.fa bB rfl)
   case ql=>(intro _ hK;exact Z.kc 1 hK bC rfl rfl rfl)
   refine CH.aV U U ?_ (.c 0 U (.c 1 U (.c 2 U .n)))
   refine D.st 2 ay U U U U U U U U λ_=>?_
   refine CH.cons U U (by decide) ?_ (.c 0 U (.c 1 U (.c 2 U .n)))
   refine D.qu (Z.as U)<|?_
   refine CH.cons U U (by decide) ?_ (.c 0 U (.c 1 U (.c 2 U .n)))
   refine D.qu (Z.as U)<|?_
   refine CH.nil ?_ (.c 0 U (.c 1 U (.c 2 U .n)))
   simp only[app,bV]
   refine UQ.then<|UW.ret<|UQ.aj<|S.bG (λhd=>jS U (by decide) U (bL (av (k:=2) hd U U bH bI) (bL (Y U) (bL (Y U) (je)))))<|?_
   rfl
 ·rw[if_neg hlt]
  refine aA (n:=48) (H0:=H) (M:=[]) Tryz.func27 (by kernel_rfl) U (by rw[Tryz.ntmps27];rfl) .nil<|?_
  focus
   refine Q.rg<|S.dd<|D.al z27 U U U λp2=>Q.as U<|Q.as U<|Q.nt<|S.sq<|Q.rg<|Q.mv U<|S.qu (Z.fC Tryz.underlying9 U)<|Q.bi U U U<|Q.nt<|S.cF U (decide_eq_false (by omega))<|UW.skip<|UQ.then<|Q.rg<|Q.mv U<|S.qu (Z.call U U (λH=>hc H))<|Q.as U<|Q.nt<|S.sq<|Q.rg<|Q.mv U<|Q.bi U U U<|Q.nt<|S.cF U (decide_eq_false (by omega))<|UW.skip<|UQ.then<|Q.rg<|Q.mv U<|S.qu (Z.bd [0] Ug U U U U U U)<|S.qu (Z.call U U (λH=>hb0 H))<|S.qu (Z.call U U (λH=>Dq hval H))<|Q.mv U<|S.qu (Z.ex U U)<|S.qu (Z.ex U U)<|S.dd<|D.al z72 U U U λp6=>S.dd<|D.al z27 U U U λp7=>S.s<|D.st 1 aF U U U U U U U U λ_=>S.s<|D.st 0 ay U U U U U U U U λ_=>Q.nt<|Q.rg<|S.qu (Z.bg 1 aF U U U)<|S.qu (Z.call U U (λH=>hb1 H))<|S.s<|D.st 1 aF U U U U U U U U λ_=>Q.nt<|S.sq<|Q.rg<|Q.fa dz U<|Q.lc 1 bC U U U<|Q.bi U U U<|Q.mv U<|?_
   refine S.tE 30 (λFJ=>?_) (λFJ=>?_)
   rotate_left
   omega
   refine Q.on (Z.fa bB U)<|Q.on (Z.dQ 1 bC U U U)<|Q.on (Z.mv U)<|Q.on (Z.fC Tryz.underlying9 U)<|Q.on (Z.bi U U U)<|Q.pk U U<|Q.nt<|S.cF U (decide_eq_false (by omega))<|UW.skip<|UQ.then<|S.sq<|Q.rg<|Q.fa dz U<|Q.lc 1 bC U U U<|Q.bi U U U<|Q.nt<|S.cF U (fE (by omega))<|UW.skip<|UQ.then<|Q.rg<|S.qu (Z.bg 0 ay U U U)<|S.s<|D.st 2 ay U U U U U U U U λ_=>Q.as U<|Q.as U<|Q.nt<|UW.ret<|S.bG (λhd=>jS U (by decide) U (bL (av (k:=2) hd U U bH bI) (bL (Y U) (bL (Y U) (je)))))<|?_
   rfl
theorem yX(s:ByteArray)(H:Hp):F Tryz.prog 27 [.v (.string s)] H (bn H (Bv (eT s))):=by
 unfold eT
 by_cases h1:65536<s.size
 ·rw[if_pos h1];exact Pe s h1 H
 ·rw[if_neg h1]
  by_cases h2:0<=nu s
  ·rw[if_pos h2];exact Pf s (by omega) h2 H
  ·rw[if_neg h2]
   have hc:=aX s 0 (Nat.zero_le _)
   have hv:=Nb s (by omega) (4*s.size+8) (aC s 0) 0 hc (by omega) (by omega)
   have hfu:=(xg s (4*s.size+8)).1 (aC s 0) 0
   unfold VC at hv
   cases hr:fQ s (4*s.size+8) (aC s 0) 0 with
   |err e q=>
    rw[hr] at hv
    exact Pg s (by omega) (by omega) e (λh=>hfu q hc (by omega) (by rw[hr,h])) q hv H
   |ok q v=>
    rw[hr] at hv
    have hq:=((kM s (4*s.size+8)).1 _ _ _ _ hc hr).2
    exact Ph s (by omega) (by omega) v q hq hv H
end Go.Proofs.YtbooeongacgnbaaGreatDoor
end
