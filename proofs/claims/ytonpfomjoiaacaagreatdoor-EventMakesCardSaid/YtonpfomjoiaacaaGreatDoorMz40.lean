/- A part of the proof. -/
import Derived.Test.YtonpfomjoiaacaaGreatDoorMz39
set_option maxRecDepth 100000
set_option maxHeartbeats 4000000
set_option linter.unusedSectionVars false
set_option linter.unusedVariables false
set_option linter.unusedSimpArgs false
section
namespace Go.Proofs.YtonpfomjoiaacaaGreatDoor
open Go Go.fT Go.RowKit
def UG:ByteArray:=⟨#[109,46,114,111,111,109,46,109,101,115,115,97,103,101]⟩
def tyB:ByteArray:=⟨#[116]⟩
def G5:List ByteArray:=[qw,zB,EP,ER,Uu,UG,tyB]
def G6(k:Int):ByteArray:=G5.getD (k.tmod 7).toNat ⟨#[]⟩
theorem RO(k:Int)(hk0:0<=k)(hk1:k<256)(H:Hp):au Tryz.prog 45 [.v (.int .u8 k)] H (bz H (.v (.string (G6 k)))):=by
 have hm0:=Int.tmod_nonneg 7 hk0
 have hm1:=Int.tmod_lt_of_pos k (by decide:(0:Int)<7)
 have hg:=eD G5 (k.tmod 7).toNat (by show _<7;omega)
 have he:G6 k=G5[(k.tmod 7).toNat]'(by show _<7;omega):=getD_at _
 rw[he]
 refine aF (n:=8) (H0:=H) (I:=[]) Tryz.func45 (by kernel_rfl) U (by rw[Tryz.ntmps45];rfl) .nil<|?_
 refine Q.rg<|Q.as U<|Q.nt<|Q.rg<|S.qu (Z.eq (u':=strs G5) (Z.bl dV U U (bA U)) U)<|Q.mv U<|Q.bi U U U<|S.qu (Z.ia aY U U (by omega) hg (by rfl))<|?_
 refine S.qu (Z.fE ed U)<|Q.as U<|Q.nt<|UW.ret<|S.bK (λ_=>ak U U)<|?_
 rfl
def BN:List ByteArray:=[⟨#[109,101,109,98,101,114,115,104,105,112]⟩,⟨#[98,97,110]⟩,⟨#[117,115,101,114,115]⟩,⟨#[101,118,101,110,116,115]⟩,⟨#[106,111,105,110,95,114,117,108,101]⟩,⟨#[97,108,108,111,119]⟩,⟨#[120]⟩,⟨#[107,105,99,107]⟩,⟨#[117,115,101,114,115,95,100,101,102,97,117,108,116]⟩,⟨#[105,110,118,105,116,101]⟩]
def joinL:List ByteArray:=[⟨#[106,111,105,110]⟩,⟨#[98,97,110]⟩,⟨#[108,101,97,118,101]⟩,⟨#[105,110,118,105,116,101]⟩,⟨#[122]⟩]
def UH:List ByteArray:=[⟨#[112,117,98,108,105,99]⟩,⟨#[105,110,118,105,116,101]⟩,⟨#[110,111,110,101]⟩]
def pK(c:List Int)(k:Int)(j:Nat):V:=
 if (c.getD j 0).tmod 10=0 then cK (joinL.getD (((c.getD j 0).tdiv 10).tmod 5).toNat ⟨#[]⟩)
 else if (c.getD j 0).tmod 10=4 then cK (UH.getD (((c.getD j 0).tdiv 10).tmod 3).toNat ⟨#[]⟩)
 else if (c.getD j 0).tmod 10=2\/(c.getD j 0).tmod 10=3 then pE c (IntKind.u8.wrap (k+(j:Int)))
 else mU ((c.getD j 0).tmod 120-10)
def mY(c:List Int)(j:Nat):ByteArray:=BN.getD ((c.getD j 0).tmod 10).toNat ⟨#[]⟩
def vz(c:List Int)(k:Int):Nat->V
 |0=> .mk 5 0 ⟨#[]⟩ [] []
 |j+1=>bH (vz c k j) (mY c j) (pK c k j)
def G7(c:List Int)(k:Int):V:=vz c k (min c.length 6)
theorem UI:∀s∈BN,s.size<=20:=by decide
theorem Ms:∀s∈joinL,s.size<=20:=by decide
theorem Qn:∀s∈UH,s.size<=20:=by decide
theorem Mt:∀s∈G5,s.size<=20:=by decide
theorem mM{l:List ByteArray}{N:Nat}(h:∀s∈l,s.size<=N)(i:Nat):(l.getD i ⟨#[]⟩).size<=N:=by
 by_cases hi:i<l.length
 ·exact h _ (eY hi)
 ·simp only[List.getD,List.getElem?_eq_none (Nat.le_of_not_lt hi)];exact Nat.zero_le _
theorem oD(l:List ByteArray)(i:Nat)(h:i<l.length):(l.map encS)[i]? =some (encS (l.getD i ⟨#[]⟩)):=by rw[eD l i h,getD_at h]
theorem UJ(c:List Int)(j:Nat):(mY c j).size<=20:=mM UI _
theorem G8(x:Int):0<=IntKind.u8.wrap x/\IntKind.u8.wrap x<256:=by rw[IntKind.wrap_u8];omega
theorem O5{c:List Int}(hc:zh c)(k:Int)(j:Nat):Fits (pK c k j)/\Wt 100000 (pK c k j):=by
 have hs:∀t:ByteArray,t.size<=20->Fits (cK t)/\Wt 100000 (cK t):=λt h=>⟨jY t,.str (by omega)⟩
 have hb:=mX hc j
 unfold pK
 repeat' split
 ·exact hs _ (mM Ms _)
 ·exact hs _ (mM Qn _)
 ·exact⟨(EM c _ (G8 _).1).1,YC hc _ (G8 _).1⟩
 ·have h1:=Int.tmod_nonneg 120 hb.1
  have h2:=Int.tmod_lt_of_pos (c.getD j 0) (by decide:(0:Int)<120)
  exact⟨mD _ _ _,.leaf (by omega) (by decide)⟩
theorem yx{c:List Int}(hc:zh c)(k:Int):∀j,Ev (vz c k j) j/\Wt (30+100200*j) (vz c k j)
 |0=>⟨zD,.leaf (by decide) (by decide)⟩
 |j+1=>by
  obtain⟨h1,h2⟩:=yx hc k j
  obtain⟨h3,h4⟩:=O5 hc k j
  have h5:=UJ c j
  exact⟨h1.with (by omega) h3,(h2.with h4 h5).up (by omega)⟩
theorem RP(c:List Int)(hc:zh c)(k:Int)(hk0:0<=k)(hk1:k<256)(H:Hp):au Tryz.prog 46 [BD c,.v (.int .u8 k)] H (bz H (.agg (aD (G7 c k)))):=by
 have wI:(c.map uW).length=c.length:=List.length_map ..
 refine aF (n:=93) (H0:=H) (I:=[]) Tryz.func46 (by kernel_rfl) U (by rw[Tryz.ntmps46];rfl) .nil<|?_
 refine Q.rg<|S.dd<|D.al z26 U U U λp4=>Q.nt<|Q.rg<|S.qu (Z.bd [0] iE U U U U U U)<|S.dd<|D.al z26 U U U λp5=>S.s<|D.st 0 av U U U U U U U U λ_=>Q.nt<|Q.rg<|S.qu (Z.eq (u':=strs BN) (Z.bl dV U U (bA U)) U)<|Q.as U<|Q.nt<|S.sq<|Q.rg<|Q.as U<|Q.nt<|UW.block<|S.loop (λj:Nat×V=>[(7,.v (.int .i64 (j.1:Int))),(6,strs BN),(5,.ptr p5 0),(4,.ptr p4 0),(0,BD c),(1,.v (.int .u8 k))]) (λj=>[(p5,.box 26 (aD j.2)),(p4,.box 26 (aD zeroV))]) (λj=>j.1<=c.length/\j.1<=6/\j.2=vz c k j.1) (λj=>6-j.1) (0,.mk 5 0 ⟨#[]⟩ [] []) ⟨Nat.zero_le _,Nat.zero_le _,rfl⟩ ⟨rfl,rfl,rfl,rfl,rfl,rfl,trivial⟩ (.refl _)<|?_
 rintro⟨j,o⟩ ⟨hj,hj6,ho⟩
 dsimp only at hj hj6 ho⊢
 by_cases hlt:j<c.length
 ·by_cases hl6:j<6
  ·obtain⟨hg0,hb0,hb1⟩:=JQ hc hlt
   have hm0:=Int.tmod_nonneg 10 hb0
   have hm1:=Int.tmod_lt_of_pos (c.getD j 0) (by decide:(0:Int)<10)
   have hn0:=Int.tmod_nonneg 120 hb0
   have hn1:=Int.tmod_lt_of_pos (c.getD j 0) (by decide:(0:Int)<120)
   have hq0:=Int.tdiv_nonneg hb0 (by decide:(0:Int)<=10)
   have hq1:(c.getD j 0).tdiv 10<=25:=by rw[Int.tdiv_eq_ediv_of_nonneg hb0];omega
   have hwr:IntKind.u8.wrap ((c.getD j 0).tdiv 10)=(c.getD j 0).tdiv 10:=by rw[IntKind.wrap_u8];omega
   have hr0:=Int.tmod_nonneg 5 hq0
   have hr1:=Int.tmod_lt_of_pos ((c.getD j 0).tdiv 10) (by decide:(0:Int)<5)
   have hs0:=Int.tmod_nonneg 3 hq0
   have hs1:=Int.tmod_lt_of_pos ((c.getD j 0).tdiv 10) (by decide:(0:Int)<3)
   have L6:(BN.map encS)[((c.getD j 0).tmod 10).toNat]? =some (encS (mY c j)):=oD BN _ (by show _<10;omega)
   have hgj:=oD joinL (((c.getD j 0).tdiv 10).tmod 5).toNat (by show _<5;omega)
   have hgp:=oD UH (((c.getD j 0).tdiv 10).tmod 3).toNat (by show _<3;omega)
   have hw8:=G8 (k+(j:Int))
   have ZE:=λH=>RA c hc (IntKind.u8.wrap (k+(j:Int))) hw8.1 hw8.2 H
   obtain⟨hev,_⟩:=yx hc k j
   rw[<-ho] at hev
   have hof:=hev.fits (by omega)
   have hst:vz c k (j+1)=bH o (mY c j) (pK c k j):=by rw[ho];rfl
   have hw:∀y H,au Tryz.prog 18 [.agg (aD o),.v (.string (mY c j)),.agg (aD y)] H (bz H (.agg (aD (bH o (mY c j) y)))):=λy H=>kJ o hof hev.keys (mY c j) y H
   have hX:pK c k j=pK c k j:=rfl
   conv at hX=>rhs;unfold pK
   generalize joinL.getD (((c.getD j 0).tdiv 10).tmod 5).toNat ⟨#[]⟩=tj at*
   generalize UH.getD (((c.getD j 0).tdiv 10).tmod 3).toNat ⟨#[]⟩=tp at*
   generalize c.getD j 0=b at*
   generalize mY c j=key at*
   generalize hnx:vz c k (j+1)=nx at*
   have hnx:=hnx.symm
   generalize pK c k j=x at*
   by_cases h0:b.tmod 10=0
   ·rw[if_pos h0] at hX
    focus
     refine S.sq<|Q.rg<|Q.mv U<|Q.mv U<|S.qu (Z.fG bR U)<|Q.bi U U U<|Q.mv U<|?_
     refine S.tD 15 (λFa=>?_) (λFa=>?_)
     rotate_left
     omega
     refine Q.on (Z.mv U)<|Q.on (Z.bi U U U)<|Q.pk U U<|Q.nt<|S.cT U (decide_eq_true (by omega))<|UW.skip<|UQ.then<|S.sq<|UW.block<|Q.rg<|Q.mv U<|Q.mv U<|S.qu (Z.ia bR U U (by omega) (by assumption) (by rfl))<|?_
     refine S.qu (Z.fE nM U)<|Q.bi U U U<|S.qu (Z.cv Tryz.underlying2 U (IntWalk.i64_in _ (by omega)) (by rw[Tryz.underlying5];rfl))<|?_
     refine S.qu (Z.sub U U (IntWalk.i64_in _ (by omega)))<|S.qu (Z.call U U (λH=>kT (b.tmod 120-10) H))<|S.dd<|D.al z26 U U U λp8=>S.s<|D.st 0 av U U U U U U U U λ_=>Q.nt<|S.sq<|Q.rg<|Q.mv U<|Q.mv U<|S.qu (Z.ia bR U U (by omega) (by assumption) (by rfl))<|?_
     refine S.qu (Z.fE nM U)<|Q.bi U U U<|Q.bi U U U<|Q.nt<|S.cT U (kQ (by omega))<|S.rg<|S.qu (Z.eq (u':=strs joinL) (Z.bl dV U U (bA U)) U)<|Q.mv U<|Q.mv U<|S.qu (Z.ia bR U U (by omega) (by assumption) (by rfl))<|?_
     refine S.qu (Z.fE nM U)<|S.qu (Z.eq (u':=.v (.int .u8 (b.tdiv 10))) (Z.bi U U U) (by rw[hwr]))<|?_
     refine Q.bi U U U<|S.qu (Z.ia aY U U (by omega) hgj (by rfl))<|?_
     refine S.qu (Z.fE ed U)<|S.qu (Z.call U U (λH=>iM tj H))<|S.s<|D.st 0 av U U U U U U U U λ_=>Q.nt<|S.sq<|Q.rg<|Q.mv U<|Q.mv U<|S.qu (Z.ia bR U U (by omega) (by assumption) (by rfl))<|?_
     refine S.qu (Z.fE nM U)<|Q.bi U U U<|Q.bi U U U<|Q.nt<|S.cF U (iy (by omega))<|UW.skip<|UQ.then<|S.sq<|Q.rg<|Q.mv U<|Q.mv U<|S.qu (Z.ia bR U U (by omega) (by assumption) (by rfl))<|?_
     refine S.qu (Z.fE nM U)<|Q.bi U U U<|Q.bi U U U<|Q.mv U<|?_
     refine S.tE 67 (λO6=>?_) (λO6=>?_)
     omega
     refine Q.on (Z.mv U)<|Q.on (Z.mv U)<|Q.on (Z.ia bR U U (by omega) (by assumption) (by rfl))<|?_
     refine Q.on (Z.fE nM U)<|Q.on (Z.bi U U U)<|Q.on (Z.bi U U U)<|Q.pk U U<|Q.nt<|S.cF U (iy (by omega))<|UW.skip<|UQ.then<|?_
     refine' UW.bG (by kernel_rfl) [0,0,0,0,12,28,60,126,254,0,1023,2047] [some 81,some 82,some 83,some 84,some 85,some 86,some 87,some 88,some 89,some 90,some 91,none] [some (81,_),some (82,_),some (83,_),some (84,_),some (85,_),some (86,_),some (87,_),some (88,_),some (89,_),some (90,_),some (91,_),none] [11] [0,5,8,9] U (by decide) (by decide) (M.held (by decide) U U ?je (M.free (by decide) U U ?jf (M.free (by decide) U U ?jg (M.free (by decide) U U ?jh (M.free (by decide) U U ?ji (M.held (by decide) U U ?jK (M.free (by decide) U U ?mg (M.free (by decide) U U ?xP (M.held (by decide) U U ?xQ (M.held (by decide) U U ?xR (M.free (by decide) U U ?ze (M.skip M.nil)))))))))))) ?su
     case je=>exact Z.dA 1 av rfl rfl (Y _)
     case jf=>(intro _;exact Z.mv rfl)
     case jg=>(intro _;exact Z.mv rfl)
     case jh=>(intro _;exact Z.mv rfl)
     case ji=>(intro _;exact Z.ia bR rfl rfl (by omega) (by assumption) (by rfl))
     case jK=>exact Z.fE nM rfl
     case mg=>(intro _;exact Z.bi rfl rfl rfl)
     case xP=>(intro _;exact Z.ia aY rfl rfl (by omega) L6 (by rfl))
     case xQ=>exact Z.fE ed rfl
     case xR=>exact Z.dA 0 av rfl rfl rfl
     case ze=>(intro _;exact Z.eq (u':=.agg (aD nx)) (Z.call rfl rfl (λH=>hw (cK tj) H)) (by rw[hst,hX]))
     refine CH.df U U<|D.uq 1 av U U U U (by exact aA _) (Y _) (Y _) U λ_=>?_
     refine CH.nil<|?_
     simp only[app,bV]
     refine UQ.aB<|UQ.then<|S.rg<|Q.mv U<|S.qu (Z.add (r:=((j+1:Nat):Int)) U U (IntWalk.i64_in _ (by omega)))<|Q.as U<|US.nil<|?_
     refine S.back (j+1,nx) ⟨rfl,rfl,rfl,rfl,rfl,rfl,trivial⟩ (by repeat (first|exact List.Sublist.refl _|exact List.nil_sublist _|refine .cons_cons _ ?_|refine .cons _ ?_)) ?_ (by omega)
    all_goals exact⟨hlt,hl6,hnx⟩
   ·rw[if_neg h0] at hX
    by_cases h4:b.tmod 10=4
    ·rw[if_pos h4] at hX
     focus
      refine S.sq<|Q.rg<|Q.mv U<|Q.mv U<|S.qu (Z.fG bR U)<|Q.bi U U U<|Q.mv U<|?_
      refine S.tD 15 (λFa=>?_) (λFa=>?_)
      rotate_left
      omega
      refine Q.on (Z.mv U)<|Q.on (Z.bi U U U)<|Q.pk U U<|Q.nt<|S.cT U (decide_eq_true (by omega))<|UW.skip<|UQ.then<|S.sq<|UW.block<|Q.rg<|Q.mv U<|Q.mv U<|S.qu (Z.ia bR U U (by omega) (by assumption) (by rfl))<|?_
      refine S.qu (Z.fE nM U)<|Q.bi U U U<|S.qu (Z.cv Tryz.underlying2 U (IntWalk.i64_in _ (by omega)) (by rw[Tryz.underlying5];rfl))<|?_
      refine S.qu (Z.sub U U (IntWalk.i64_in _ (by omega)))<|S.qu (Z.call U U (λH=>kT (b.tmod 120-10) H))<|S.dd<|D.al z26 U U U λp8=>S.s<|D.st 0 av U U U U U U U U λ_=>Q.nt<|S.sq<|Q.rg<|Q.mv U<|Q.mv U<|S.qu (Z.ia bR U U (by omega) (by assumption) (by rfl))<|?_
      refine S.qu (Z.fE nM U)<|Q.bi U U U<|Q.bi U U U<|Q.nt<|S.cF U (iy (by omega))<|UW.skip<|UQ.then<|S.sq<|Q.rg<|Q.mv U<|Q.mv U<|S.qu (Z.ia bR U U (by omega) (by assumption) (by rfl))<|?_
      refine S.qu (Z.fE nM U)<|Q.bi U U U<|Q.bi U U U<|Q.nt<|S.cT U (kQ (by omega))<|S.rg<|S.qu (Z.eq (u':=strs UH) (Z.bl dV U U (bA U)) U)<|Q.mv U<|Q.mv U<|S.qu (Z.ia bR U U (by omega) (by assumption) (by rfl))<|?_
      refine S.qu (Z.fE nM U)<|S.qu (Z.eq (u':=.v (.int .u8 (b.tdiv 10))) (Z.bi U U U) (by rw[hwr]))<|?_
      refine Q.bi U U U<|S.qu (Z.ia aY U U (by omega) hgp (by rfl))<|?_
      refine S.qu (Z.fE ed U)<|S.qu (Z.call U U (λH=>iM tp H))<|S.s<|D.st 0 av U U U U U U U U λ_=>Q.nt<|S.sq<|Q.rg<|Q.mv U<|Q.mv U<|S.qu (Z.ia bR U U (by omega) (by assumption) (by rfl))<|?_
      refine S.qu (Z.fE nM U)<|Q.bi U U U<|Q.bi U U U<|Q.mv U<|?_
      refine S.tE 67 (λO6=>?_) (λO6=>?_)
      omega
      refine Q.on (Z.mv U)<|Q.on (Z.mv U)<|Q.on (Z.ia bR U U (by omega) (by assumption) (by rfl))<|?_
      refine Q.on (Z.fE nM U)<|Q.on (Z.bi U U U)<|Q.on (Z.bi U U U)<|Q.pk U U<|Q.nt<|S.cF U (iy (by omega))<|UW.skip<|UQ.then<|?_
      refine' UW.bG (by kernel_rfl) [0,0,0,0,12,28,60,126,254,0,1023,2047] [some 81,some 82,some 83,some 84,some 85,some 86,some 87,some 88,some 89,some 90,some 91,none] [some (81,_),some (82,_),some (83,_),some (84,_),some (85,_),some (86,_),some (87,_),some (88,_),some (89,_),some (90,_),some (91,_),none] [11] [0,5,8,9] U (by decide) (by decide) (M.held (by decide) U U ?sJ (M.free (by decide) U U ?sK (M.free (by decide) U U ?sM (M.free (by decide) U U ?sN (M.free (by decide) U U ?sO (M.held (by decide) U U ?xS (M.free (by decide) U U ?xU (M.free (by decide) U U ?xV (M.held (by decide) U U ?xW (M.held (by decide) U U ?xX (M.free (by decide) U U ?sP (M.skip M.nil)))))))))))) ?Je
      case sJ=>exact Z.dA 1 av rfl rfl (Y _)
      case sK=>(intro _;exact Z.mv rfl)
      case sM=>(intro _;exact Z.mv rfl)
      case sN=>(intro _;exact Z.mv rfl)
      case sO=>(intro _;exact Z.ia bR rfl rfl (by omega) (by assumption) (by rfl))
      case xS=>exact Z.fE nM rfl
      case xU=>(intro _;exact Z.bi rfl rfl rfl)
      case xV=>(intro _;exact Z.ia aY rfl rfl (by omega) L6 (by rfl))
      case xW=>exact Z.fE ed rfl
      case xX=>exact Z.dA 0 av rfl rfl rfl
      case sP=>(intro _;exact Z.eq (u':=.agg (aD nx)) (Z.call rfl rfl (λH=>hw (cK tp) H)) (by rw[hst,hX]))
      refine CH.df U U<|D.uq 1 av U U U U (by exact aA _) (Y _) (Y _) U λ_=>?_
      refine CH.nil<|?_
      simp only[app,bV]
      refine UQ.aB<|UQ.then<|S.rg<|Q.mv U<|S.qu (Z.add (r:=((j+1:Nat):Int)) U U (IntWalk.i64_in _ (by omega)))<|Q.as U<|US.nil<|?_
      refine S.back (j+1,nx) ⟨rfl,rfl,rfl,rfl,rfl,rfl,trivial⟩ (by repeat (first|exact List.Sublist.refl _|exact List.nil_sublist _|refine .cons_cons _ ?_|refine .cons _ ?_)) ?_ (by omega)
     all_goals exact⟨hlt,hl6,hnx⟩
    ·rw[if_neg h4] at hX
     by_cases h2:b.tmod 10=2\/b.tmod 10=3
     ·rw[if_pos h2] at hX
      focus
       refine S.sq<|Q.rg<|Q.mv U<|Q.mv U<|S.qu (Z.fG bR U)<|Q.bi U U U<|Q.mv U<|?_
       refine S.tD 15 (λFa=>?_) (λFa=>?_)
       rotate_left
       omega
       refine Q.on (Z.mv U)<|Q.on (Z.bi U U U)<|Q.pk U U<|Q.nt<|S.cT U (decide_eq_true (by omega))<|UW.skip<|UQ.then<|S.sq<|UW.block<|Q.rg<|Q.mv U<|Q.mv U<|S.qu (Z.ia bR U U (by omega) (by assumption) (by rfl))<|?_
       refine S.qu (Z.fE nM U)<|Q.bi U U U<|S.qu (Z.cv Tryz.underlying2 U (IntWalk.i64_in _ (by omega)) (by rw[Tryz.underlying5];rfl))<|?_
       refine S.qu (Z.sub U U (IntWalk.i64_in _ (by omega)))<|S.qu (Z.call U U (λH=>kT (b.tmod 120-10) H))<|S.dd<|D.al z26 U U U λp8=>S.s<|D.st 0 av U U U U U U U U λ_=>Q.nt<|S.sq<|Q.rg<|Q.mv U<|Q.mv U<|S.qu (Z.ia bR U U (by omega) (by assumption) (by rfl))<|?_
       refine S.qu (Z.fE nM U)<|Q.bi U U U<|Q.bi U U U<|Q.nt<|S.cF U (iy (by omega))<|UW.skip<|UQ.then<|S.sq<|Q.rg<|Q.mv U<|Q.mv U<|S.qu (Z.ia bR U U (by omega) (by assumption) (by rfl))<|?_
       refine S.qu (Z.fE nM U)<|Q.bi U U U<|Q.bi U U U<|Q.nt<|S.cF U (iy (by omega))<|UW.skip<|UQ.then<|S.sq<|Q.rg<|Q.mv U<|Q.mv U<|S.qu (Z.ia bR U U (by omega) (by assumption) (by rfl))<|?_
       refine S.qu (Z.fE nM U)<|Q.bi U U U<|Q.bi U U U<|Q.mv U<|?_
       refine S.tE 67 (λO6=>?_) (λO6=>?_)
       refine Q.of<|Q.of<|Q.of<|Q.of<|Q.of<|Q.of<|Q.pk U U<|Q.nt<|S.cT U U<|S.rg<|Q.mv U<|Q.mv U<|Q.mv U<|S.qu (Z.cv Tryz.underlying5 U (IntWalk.u8_in _ (by omega)) (by rw[Tryz.underlying3];rfl))<|?_
       refine S.qu (Z.add U U U)<|S.qu (Z.call U U (λH=>ZE H))<|S.s<|D.uq 0 av U U U U (by exact aA _) (Y _) U U λ_=>?_
       refine Q.nt<|?_
       refine' UW.bG (by kernel_rfl) [0,0,0,0,12,28,60,126,254,0,1023,2047] [some 81,some 82,some 83,some 84,some 85,some 86,some 87,some 88,some 89,some 90,some 91,none] [some (81,_),some (82,_),some (83,_),some (84,_),some (85,_),some (86,_),some (87,_),some (88,_),some (89,_),some (90,_),some (91,_),none] [11] [0,5,8,9] U (by decide) (by decide) (M.held (by decide) U U ?lZ (M.free (by decide) U U ?l5 (M.free (by decide) U U ?l6 (M.free (by decide) U U ?l7 (M.free (by decide) U U ?o7 (M.held (by decide) U U ?oQ (M.free (by decide) U U ?oU (M.free (by decide) U U ?oV (M.held (by decide) U U ?xy (M.held (by decide) U U ?xz (M.free (by decide) U U ?zf (M.skip M.nil)))))))))))) ?Am
       case lZ=>exact Z.dA 1 av rfl rfl (Y _)
       case l5=>(intro _;exact Z.mv rfl)
       case l6=>(intro _;exact Z.mv rfl)
       case l7=>(intro _;exact Z.mv rfl)
       case o7=>(intro _;exact Z.ia bR rfl rfl (by omega) (by assumption) (by rfl))
       case oQ=>exact Z.fE nM rfl
       case oU=>(intro _;exact Z.bi rfl rfl rfl)
       case oV=>(intro _;exact Z.ia aY rfl rfl (by omega) L6 (by rfl))
       case xy=>exact Z.fE ed rfl
       case xz=>exact Z.dA 0 av rfl rfl (Y _)
       case zf=>(intro _;exact Z.eq (u':=.agg (aD nx)) (Z.call rfl rfl (λH=>hw (pE c (IntKind.u8.wrap (k+(j:Int)))) H)) (by rw[hst,hX]))
       refine CH.df U U<|D.uq 1 av U U U U (by exact aA _) (Y _) (Y _) U λ_=>?_
       refine CH.nil<|?_
       simp only[app,bV]
       refine UQ.aB<|UQ.then<|S.rg<|Q.mv U<|S.qu (Z.add (r:=((j+1:Nat):Int)) U U (IntWalk.i64_in _ (by omega)))<|Q.as U<|US.nil<|?_
       refine S.back (j+1,nx) ⟨rfl,rfl,rfl,rfl,rfl,rfl,trivial⟩ (by repeat (first|exact List.Sublist.refl _|exact List.nil_sublist _|refine .cons_cons _ ?_|refine .cons _ ?_)) ?_ (by omega)
       rotate_left
       refine Q.on (Z.mv U)<|Q.on (Z.mv U)<|Q.on (Z.ia bR U U (by omega) (by assumption) (by rfl))<|?_
       refine Q.on (Z.fE nM U)<|Q.on (Z.bi U U U)<|Q.on (Z.bi U U U)<|Q.pk U U<|Q.nt<|S.cT U (kQ (by omega))<|S.rg<|Q.mv U<|Q.mv U<|Q.mv U<|S.qu (Z.cv Tryz.underlying5 U (IntWalk.u8_in _ (by omega)) (by rw[Tryz.underlying3];rfl))<|?_
       refine S.qu (Z.add U U U)<|S.qu (Z.call U U (λH=>ZE H))<|S.s<|D.uq 0 av U U U U (by exact aA _) (Y _) U U λ_=>?_
       refine Q.nt<|?_
       refine' UW.bG (by kernel_rfl) [0,0,0,0,12,28,60,126,254,0,1023,2047] [some 81,some 82,some 83,some 84,some 85,some 86,some 87,some 88,some 89,some 90,some 91,none] [some (81,_),some (82,_),some (83,_),some (84,_),some (85,_),some (86,_),some (87,_),some (88,_),some (89,_),some (90,_),some (91,_),none] [11] [0,5,8,9] U (by decide) (by decide) (M.held (by decide) U U ?O7 (M.free (by decide) U U ?O8 (M.free (by decide) U U ?O9 (M.free (by decide) U U ?Pb (M.free (by decide) U U ?Pd (M.held (by decide) U U ?q4x1_5 (M.free (by decide) U U ?q4x1_6 (M.free (by decide) U U ?q4x1_7 (M.held (by decide) U U ?q4x1_8 (M.held (by decide) U U ?q4x1_9 (M.free (by decide) U U ?YD (M.skip M.nil)))))))))))) ?q4x1_k
       case O7=>exact Z.dA 1 av rfl rfl (Y _)
       case O8=>(intro _;exact Z.mv rfl)
       case O9=>(intro _;exact Z.mv rfl)
       case Pb=>(intro _;exact Z.mv rfl)
       case Pd=>(intro _;exact Z.ia bR rfl rfl (by omega) (by assumption) (by rfl))
       case q4x1_5=>exact Z.fE nM rfl
       case q4x1_6=>(intro _;exact Z.bi rfl rfl rfl)
       case q4x1_7=>(intro _;exact Z.ia aY rfl rfl (by omega) L6 (by rfl))
       case q4x1_8=>exact Z.fE ed rfl
       case q4x1_9=>exact Z.dA 0 av rfl rfl (Y _)
       case YD=>(intro _;exact Z.eq (u':=.agg (aD nx)) (Z.call rfl rfl (λH=>hw (pE c (IntKind.u8.wrap (k+(j:Int)))) H)) (by rw[hst,hX]))
       refine CH.df U U<|D.uq 1 av U U U U (by exact aA _) (Y _) (Y _) U λ_=>?_
       refine CH.nil<|?_
       simp only[app,bV]
       refine UQ.aB<|UQ.then<|S.rg<|Q.mv U<|S.qu (Z.add (r:=((j+1:Nat):Int)) U U (IntWalk.i64_in _ (by omega)))<|Q.as U<|US.nil<|?_
       refine S.back (j+1,nx) ⟨rfl,rfl,rfl,rfl,rfl,rfl,trivial⟩ (by repeat (first|exact List.Sublist.refl _|exact List.nil_sublist _|refine .cons_cons _ ?_|refine .cons _ ?_)) ?_ (by omega)
       rotate_left
      all_goals exact⟨hlt,hl6,hnx⟩
     ·rw[if_neg h2] at hX
      focus
       refine S.sq<|Q.rg<|Q.mv U<|Q.mv U<|S.qu (Z.fG bR U)<|Q.bi U U U<|Q.mv U<|?_
       refine S.tD 15 (λFa=>?_) (λFa=>?_)
       rotate_left
       omega
       refine Q.on (Z.mv U)<|Q.on (Z.bi U U U)<|Q.pk U U<|Q.nt<|S.cT U (decide_eq_true (by omega))<|UW.skip<|UQ.then<|S.sq<|UW.block<|Q.rg<|Q.mv U<|Q.mv U<|S.qu (Z.ia bR U U (by omega) (by assumption) (by rfl))<|?_
       refine S.qu (Z.fE nM U)<|Q.bi U U U<|S.qu (Z.cv Tryz.underlying2 U (IntWalk.i64_in _ (by omega)) (by rw[Tryz.underlying5];rfl))<|?_
       refine S.qu (Z.sub U U (IntWalk.i64_in _ (by omega)))<|S.qu (Z.call U U (λH=>kT (b.tmod 120-10) H))<|S.dd<|D.al z26 U U U λp8=>S.s<|D.st 0 av U U U U U U U U λ_=>Q.nt<|S.sq<|Q.rg<|Q.mv U<|Q.mv U<|S.qu (Z.ia bR U U (by omega) (by assumption) (by rfl))<|?_
       refine S.qu (Z.fE nM U)<|Q.bi U U U<|Q.bi U U U<|Q.nt<|S.cF U (iy (by omega))<|UW.skip<|UQ.then<|S.sq<|Q.rg<|Q.mv U<|Q.mv U<|S.qu (Z.ia bR U U (by omega) (by assumption) (by rfl))<|?_
       refine S.qu (Z.fE nM U)<|Q.bi U U U<|Q.bi U U U<|Q.nt<|S.cF U (iy (by omega))<|UW.skip<|UQ.then<|S.sq<|Q.rg<|Q.mv U<|Q.mv U<|S.qu (Z.ia bR U U (by omega) (by assumption) (by rfl))<|?_
       refine S.qu (Z.fE nM U)<|Q.bi U U U<|Q.bi U U U<|Q.mv U<|?_
       refine S.tE 67 (λO6=>?_) (λO6=>?_)
       omega
       refine Q.on (Z.mv U)<|Q.on (Z.mv U)<|Q.on (Z.ia bR U U (by omega) (by assumption) (by rfl))<|?_
       refine Q.on (Z.fE nM U)<|Q.on (Z.bi U U U)<|Q.on (Z.bi U U U)<|Q.pk U U<|Q.nt<|S.cF U (iy (by omega))<|UW.skip<|UQ.then<|?_
       refine' UW.bG (by kernel_rfl) [0,0,0,0,12,28,60,126,254,0,1023,2047] [some 81,some 82,some 83,some 84,some 85,some 86,some 87,some 88,some 89,some 90,some 91,none] [some (81,_),some (82,_),some (83,_),some (84,_),some (85,_),some (86,_),some (87,_),some (88,_),some (89,_),some (90,_),some (91,_),none] [11] [0,5,8,9] U (by decide) (by decide) (M.held (by decide) U U ?Eg (M.free (by decide) U U ?Eh (M.free (by decide) U U ?Ei (M.free (by decide) U U ?Ej (M.free (by decide) U U ?El (M.held (by decide) U U ?Em (M.free (by decide) U U ?En (M.free (by decide) U U ?Eo (M.held (by decide) U U ?Ep (M.held (by decide) U U ?Om (M.free (by decide) U U ?Jv (M.skip M.nil)))))))))))) ?T9
       case Eg=>exact Z.dA 1 av rfl rfl (Y _)
       case Eh=>(intro _;exact Z.mv rfl)
       case Ei=>(intro _;exact Z.mv rfl)
       case Ej=>(intro _;exact Z.mv rfl)
       case El=>(intro _;exact Z.ia bR rfl rfl (by omega) (by assumption) (by rfl))
       case Em=>exact Z.fE nM rfl
       case En=>(intro _;exact Z.bi rfl rfl rfl)
       case Eo=>(intro _;exact Z.ia aY rfl rfl (by omega) L6 (by rfl))
       case Ep=>exact Z.fE ed rfl
       case Om=>exact Z.dA 0 av rfl rfl rfl
       case Jv=>(intro _;exact Z.eq (u':=.agg (aD nx)) (Z.call rfl rfl (λH=>hw (mU (b.tmod 120-10)) H)) (by rw[hst,hX]))
       refine CH.df U U<|D.uq 1 av U U U U (by exact aA _) (Y _) (Y _) U λ_=>?_
       refine CH.nil<|?_
       simp only[app,bV]
       refine UQ.aB<|UQ.then<|S.rg<|Q.mv U<|S.qu (Z.add (r:=((j+1:Nat):Int)) U U (IntWalk.i64_in _ (by omega)))<|Q.as U<|US.nil<|?_
       refine S.back (j+1,nx) ⟨rfl,rfl,rfl,rfl,rfl,rfl,trivial⟩ (by repeat (first|exact List.Sublist.refl _|exact List.nil_sublist _|refine .cons_cons _ ?_|refine .cons _ ?_)) ?_ (by omega)
      all_goals exact⟨hlt,hl6,hnx⟩
  ·focus
    refine S.sq<|Q.rg<|Q.mv U<|Q.mv U<|S.qu (Z.fG bR U)<|Q.bi U U U<|Q.mv U<|?_
    refine S.tD 15 (λFa=>?_) (λFa=>?_)
    rotate_left
    omega
    refine Q.on (Z.mv U)<|Q.on (Z.bi U U U)<|Q.pk U U<|Q.nt<|S.cF U (decide_eq_false (by omega))<|UW.exit<|UQ.pass<|UQ.pass<|UQ.here<|UQ.then<|Q.rg<|S.qu (Z.dA 0 av U U (Y _))<|S.s<|D.uq 1 av U U U U (by exact aA _) (Y _) U U λ_=>?_
    refine Q.nt<|UW.ret<|S.bK (λhd=>aU (k:=1) hd U U U fV (by rw[Y];exact fZ))<|?_
   rw[ho,show j=min c.length 6 from by omega];rfl
 ·refine S.sq<|Q.rg<|Q.mv U<|Q.mv U<|S.qu (Z.fG bR U)<|Q.bi U U U<|Q.mv U<|?_
  refine S.tD 15 (λFa=>?_) (λFa=>?_)
  omega
  refine Q.of<|Q.of<|Q.pk U U<|Q.nt<|S.cF U U<|UW.exit<|UQ.pass<|UQ.pass<|UQ.here<|UQ.then<|Q.rg<|S.qu (Z.dA 0 av U U (Y _))<|S.s<|D.uq 1 av U U U U (by exact aA _) (Y _) U U λ_=>?_
  refine Q.nt<|UW.ret<|S.bK (λhd=>aU (k:=1) hd U U U fV (by rw[Y];exact fZ))<|?_
  rw[ho,show j=min c.length 6 from by omega];rfl
theorem UK{a b:ByteArray}(h:r9 a b=true):a=b:=fM (by unfold r9 at h;simpa using h)
theorem Qo:∀{a b:List ByteArray},kX r9 a b=true->a=b
 |[],[],_=>rfl
 |[],_::_,h=>by cases h
 |_::_,[],h=>by cases h
 |x::r,y::s,h=>by
  have h':(r9 x y&&kX r9 r s)=true:=h
  rw[Bool.and_eq_true] at h'
  rw[UK h'.1,Qo h'.2]
mutual
theorem same_eq:∀{x y:V},gp x y=true->x=y
 | .mk k n t ks vs,.mk k' n' t' ks' vs',h=>by
   rw[gp] at h
   simp only[Bool.and_eq_true,beq_iff_eq] at h
   obtain⟨rfl,rfl,h3,h4,h5⟩:=h
   rw[UK h3,Qo h4,Mv h5]
theorem Mv:∀{x y:List V},uR x y=true->x=y
 |[],[],_=>rfl
 |[],_::_,h=>by rw[uR] at h;cases h
 |_::_,[],h=>by rw[uR] at h;cases h
 |x::r,y::s,h=>by
  rw[uR,Bool.and_eq_true] at h
  rw[same_eq h.1,Mv h.2]
end
theorem YE{x y:V}(h:x≠y):gp x y=false:=by
 cases hs:gp x y with
 |false=>rfl
 |true=>exact absurd (same_eq hs) h
theorem UL{a b:ByteArray}(h:cK a=cK b):a=b:=by injection h
theorem UM(a b:ByteArray):gp (cK a) (cK b)=(a.toList==b.toList):=by
 cases h:(a.toList==b.toList) with
 |true=>
  have:a=b:=fM (by simpa using h)
  rw[this];exact Bf _ (jY _)
 |false=>exact YE λe=>by rw[UL e] at h;simp at h
structure O(x:V):Prop where
 k:x.k=5
 n:x.n=0
 t:x.t=⟨#[]⟩
 len:x.ks.length=x.vs.length
 GR:Asc x.ks
theorem O.form{x:V}(h:O x):x=.mk 5 0 ⟨#[]⟩ x.ks x.vs:=by
 obtain⟨k,n,t,ks,vs⟩:=x
 have h1:k=5:=h.k
 have h2:n=0:=h.n
 have h3:t=⟨#[]⟩:=h.t
 subst h1;subst h2;subst h3;rfl
theorem O.of{ks:List ByteArray}{vs:List V}(hl:ks.length=vs.length)(ha:Asc ks):O (.mk 5 0 ⟨#[]⟩ ks vs):=⟨rfl,rfl,rfl,hl,ha⟩
theorem O.empty:O (.mk 5 0 ⟨#[]⟩ [] []):=.of U (λi j hi=>absurd hi (Nat.not_lt_zero _))
theorem O.with{x:V}(h:O x)(key:ByteArray)(y:V):O (bH x key y):=by
 rw[h.form]
 obtain⟨ks',vs',e1,e2,e3,_⟩:=Bb (n:=0) (t:=⟨#[]⟩) h.len h.GR key y
 rw[e1];exact .of e2 e3
theorem O.wo{x:V}(h:O x)(key:ByteArray):O (bC x key):=by
 rw[h.form]
 obtain⟨ks',vs',e1,e2,e3,_⟩:=Qj (n:=0) (t:=⟨#[]⟩) h.len h.GR key
 rw[e1];exact .of e2 e3
theorem O.jO{x:V}(h:O x)(key:ByteArray)(y:V):aI (bH x key y) key=(y,true):=by
 rw[h.form];exact Go.Proofs.YtonpfomjoiaacaaGreatDoor.jO h.len h.GR key y
theorem O.jy{x:V}(h:O x){key other:ByteArray}(hne:other≠key)(y:V):aI (bH x key y) other=aI x other:=by
 have e:=h.form
 rw[e];exact Go.Proofs.YtonpfomjoiaacaaGreatDoor.jy h.len h.GR key other hne y
theorem O.mem{x:V}(h:O x){key:ByteArray}{v:V}:aI x key=(v,true)↔(key,v)∈x.ks.zip x.vs:=by
 have e:=h.form
 have hl:=h.len
 have ha:=h.GR
 generalize x.ks=ks at*
 generalize x.vs=vs at*
 subst e
 constructor
 ·intro hg
  cases hk:cz ks key with
  |none=>rw[get_none hl hk] at hg;simp at hg
  |some i=>
   rw[get_some hl hk] at hg
   have hi:i<ks.length:=by
    unfold cz at hk
    exact(List.findIdx?_eq_some_iff_getElem.1 hk).1
   have hv:vs.getD i zeroV=v:=(Prod.mk.inj hg).1
   rw[getD_at (by omega)] at hv
   have:(ks.zip vs)[i]'(by rw[List.length_zip];omega)=(key,v):=by rw[List.getElem_zip,Ba hk hi,hv]
   rw[<-this];exact List.getElem_mem _
 ·intro hm
  obtain⟨i,hi,e⟩:=List.getElem_of_mem hm
  rw[List.length_zip] at hi
  rw[List.getElem_zip] at e
  have e1:ks[i]'(by omega)=key:=(Prod.mk.inj e).1
  have e2:vs[i]'(by omega)=v:=(Prod.mk.inj e).2
  have hk:=yu ha (by omega:i<ks.length)
  rw[e1] at hk
  rw[get_some hl hk,getD_at (by omega),e2]
theorem Bg{x:V}{key:ByteArray}(h:(aI x key).2=false):aI x key=(zeroV,false):=by
 unfold aI at h⊢
 split
 ·rename_i i e;rw[e] at h;simp at h
 ·rfl
theorem O.has{x:V}(h:O x){key:ByteArray}:(aI x key).2=true↔key∈x.ks:=by
 constructor
 ·intro hg
  have:(key,(aI x key).1)∈x.ks.zip x.vs:=h.mem.1 (by rw[<-hg])
  exact(List.of_mem_zip this).1
 ·intro hm
  obtain⟨i,hi,e⟩:=List.getElem_of_mem hm
  have hl:=h.len
  have:(key,x.vs[i]'(by omega))∈x.ks.zip x.vs:=by
   have:(x.ks.zip x.vs)[i]'(by rw[List.length_zip];omega)=(key,x.vs[i]'(by omega)):=by rw[List.getElem_zip,e]
   rw[<-this];exact List.getElem_mem _
  rw[h.mem.2 this]
theorem O.Pe{x:V}(h:O x)(key:ByteArray):aI (bC x key) key=(zeroV,false):=by
 rw[h.form]
 obtain⟨ks',vs',e1,e2,e3,e4,_⟩:=Qj (n:=0) (t:=⟨#[]⟩) h.len h.GR key
 rw[e1];exact get_none e2 e4
theorem Pf{ks:List ByteArray}(h:Asc ks):ks.Pairwise (λa b=>dP a b=true):=List.pairwise_iff_getElem.2 λi j hi hj hij=>h i j hi hj hij
theorem pw_asc{ks:List ByteArray}(h:ks.Pairwise (λa b=>dP a b=true)):Asc ks:=λi j hi hj hij=>List.pairwise_iff_getElem.1 h i j hi hj hij
theorem ZF:∀{a b:List ByteArray},a.Pairwise (λa b=>dP a b=true)->b.Pairwise (λa b=>dP a b=true)->(∀s,s∈a↔s∈b)->a=b
 |[],[],_,_,_=>rfl
 |[],y::s,_,_,h=>absurd ((h y).2 (List.mem_cons_self ..)) (List.not_mem_nil)
 |x::r,[],_,_,h=>absurd ((h x).1 (List.mem_cons_self ..)) (List.not_mem_nil)
 |x::r,y::s,h1,h2,h=>by
  obtain⟨h1a,h1b⟩:=List.pairwise_cons.1 h1
  obtain⟨h2a,h2b⟩:=List.pairwise_cons.1 h2
  have hxy:x=y:=by
   rcases List.mem_cons.1 ((h x).1 (List.mem_cons_self ..)) with e|e
   ·exact e
   ·rcases List.mem_cons.1 ((h y).2 (List.mem_cons_self ..)) with e'|e'
    ·exact e'.symm
    ·have:=yo (h2a x e) (h1a y e')
     rw[ve] at this;cases this
  subst hxy
  have:r=s:=ZF h1b h2b λz=>by
   have hz:=h z
   rw[List.mem_cons,List.mem_cons] at hz
   constructor
   ·intro hm
    rcases hz.1 (.inr hm) with e|e
    ·subst e;have:=h1a _ hm;rw[ve] at this;cases this
    ·exact e
   ·intro hm
    rcases hz.2 (.inr hm) with e|e
    ·subst e;have:=h2a _ hm;rw[ve] at this;cases this
    ·exact e
  rw[this]
theorem O.ext{x y:V}(hx:O x)(hy:O y)(h:∀key,aI x key=aI y key):x=y:=by
 have hk:x.ks=y.ks:=ZF (Pf hx.GR) (Pf hy.GR) λs=>by rw[<-hx.has,<-hy.has,h s]
 have hv:x.vs=y.vs:=by
  have hl1:=hx.len
  have hl2:=hy.len
  apply List.ext_getElem (by rw[<-hl1,<-hl2,hk])
  intro i h1 h2
  have m1:(x.ks[i]'(by omega),x.vs[i])∈x.ks.zip x.vs:=by
   have:(x.ks.zip x.vs)[i]'(by rw[List.length_zip];omega)=(x.ks[i]'(by omega),x.vs[i]):=List.getElem_zip
   rw[<-this];exact List.getElem_mem _
  have m2:(y.ks[i]'(by omega),y.vs[i])∈y.ks.zip y.vs:=by
   have:(y.ks.zip y.vs)[i]'(by rw[List.length_zip];omega)=(y.ks[i]'(by omega),y.vs[i]):=List.getElem_zip
   rw[<-this];exact List.getElem_mem _
  have g1:=hx.mem.2 m1
  have g2:=hy.mem.2 m2
  have hki:x.ks[i]'(by omega)=y.ks[i]'(by omega):=by simp only[hk]
  rw[hki,h] at g1
  exact(Prod.mk.inj (g1.symm.trans g2)).1
 rw[hx.form,hy.form,hk,hv]
theorem Qp{x y:V}{a b:ByteArray}(h:∀v,aI x a=(v,true)↔aI y b=(v,true)):aI x a=aI y b:=by
 cases h1:(aI x a).2 with
 |true=>
  have:=(h (aI x a).1).1 (by rw[<-h1])
  rw[this,<-h1]
 |false=>
  cases h2:(aI y b).2 with
  |true=>
   have:=(h (aI y b).1).2 (by rw[<-h2])
   rw[this] at h1;cases h1
  |false=>rw[Bg h1,Bg h2]
theorem YF{α β:Type}(a:List α)(b:List β)(i:Nat)(h:a.length=b.length):(cutAt a i).zip (cutAt b i)=cutAt (a.zip b) i:=by
 unfold cutAt
 rw[List.zip_append (by rw[List.length_take,List.length_take,h])]
 simp only[List.zip,List.take_zipWith,List.drop_zipWith]
theorem O.tQ{x:V}(h:O x){key other:ByteArray}(hne:other≠key):aI (bC x key) other=aI x other:=by
 refine Qp λv=>?_
 rw[(h.wo key).mem,h.mem]
 have e:=h.form
 have hl:=h.len
 have ha:=h.GR
 generalize x.ks=ks at*
 generalize x.vs=vs at*
 subst e
 cases hk:cz ks key with
 |none=>rw[Qi hl hk];exact Iff.rfl
 |some i=>
  rw[Qh hl hk]
  show(other,v)∈(cutAt ks i).zip (cutAt vs i)↔(other,v)∈ks.zip vs
  rw[YF _ _ _ hl]
  have hi:i<ks.length:=by
   unfold cz at hk
   exact(List.findIdx?_eq_some_iff_getElem.1 hk).1
  have hz:i<(ks.zip vs).length:=by rw[List.length_zip];omega
  have hp:(ks.zip vs)[i]=(key,vs[i]'(by omega)):=by rw[List.getElem_zip,Ba hk hi]
  have hs:ks.zip vs=(ks.zip vs).take i++(key,vs[i]'(by omega))::(ks.zip vs).drop (i+1):=by
   rw[<-hp,<-List.drop_eq_getElem_cons hz,List.take_append_drop]
  unfold cutAt
  conv=>rhs;rw[hs]
  simp only[List.mem_append,List.mem_cons]
  constructor
  ·rintro(h|h)
   ·exact .inl h
   ·exact .inr (.inr h)
  ·rintro(h|h|h)
   ·exact .inl h
   ·exact absurd (Prod.mk.inj h).1 hne
   ·exact .inr h
theorem YG(x:V)(h:x.ks.length=x.vs.length)(g:ByteArray->Bool):nA x.ks x.vs g (min x.ks.length x.vs.length)=(x.ks.zip x.vs).filter λp=>g p.1:=by
 unfold nA
 rw[List.take_of_length_le (by rw[List.length_zip];omega)]
theorem O.G9{x:V}(h:O x)(g:ByteArray->Bool):iQ x g=.mk 5 0 ⟨#[]⟩ (((x.ks.zip x.vs).filter λp=>g p.1).map (·.1)) (((x.ks.zip x.vs).filter λp=>g p.1).map (·.2)):=by
 unfold iQ
 rw[YG x h.len g]
theorem UN{α β:Type}(l:List (α×β)):(l.map (·.1)).zip (l.map (·.2))=l:=by
 induction l with
 |nil=>rfl
 |cons p r ih=>exact congrArg (List.cons p) ih
theorem O.pick{x:V}(h:O x)(g:ByteArray->Bool):O (iQ x g):=by
 rw[h.G9 g]
 refine .of (by rw[List.length_map,List.length_map]) (pw_asc ?_)
 have h1:((x.ks.zip x.vs).map (·.1)).Pairwise (λa b=>dP a b=true):=by
  rw[show(x.ks.zip x.vs).map (·.1)=x.ks from List.map_fst_zip (by have:=h.len;omega)]
  exact Pf h.GR
 exact List.Pairwise.sublist (List.filter_sublist.map _) h1
theorem O.Fb{x:V}(h:O x)(g:ByteArray->Bool)(key:ByteArray):aI (iQ x g) key=if g key=true then aI x key else(zeroV,false):=by
 have hm:∀v,aI (iQ x g) key=(v,true)↔(key,v)∈x.ks.zip x.vs/\g key=true:=λv=>by
  rw[(h.pick g).mem,h.G9 g]
  show(key,v)∈(List.map _ _).zip (List.map _ _)↔_
  rw[UN,List.mem_filter]
 by_cases hg:g key=true
 ·rw[if_pos hg]
  refine Qp λv=>?_
  rw[hm,h.mem]
  exact⟨λh=>h.1,λh=>⟨h,hg⟩⟩
 ·rw[if_neg hg]
  refine Bg ?_
  cases h2:(aI (iQ x g) key).2 with
  |false=>rfl
  |true=>exact absurd ((hm (aI (iQ x g) key).1).1 (by rw[<-h2])).2 hg
theorem UO{x:V}{key:ByteArray}(h:(aI x key).1.k=5):(aI x key).2=true:=by
 cases h2:(aI x key).2 with
 |true=>rfl
 |false=>rw[Bg h2] at h;cases h
theorem vB:hasB dC aQ=true:=by kernel_rfl
theorem O.tq{x:V}(h:O x):tq x=(aI x aQ).1:=by
 show(aI (iQ x _) aQ).1=_
 rw[h.Fb,if_pos vB]
theorem O.red{x:V}(h:O x):O (jX x):=by
 have h1:O (sZ x):=h.pick _
 unfold jX
 rw[if_pos h.k]
 split
 ·exact h1.with _ _
 ·exact h1
theorem O.YH{x:V}(h:O x)(key:ByteArray):aI (jX x) key=if hasB dC key=true then(if key=aQ/\(aI x aQ).1.k=5 then(iQ (aI x aQ).1 (fO (aI x dK).1.t),true) else aI x key) else(zeroV,false):=by
 have h1:O (sZ x):=h.pick _
 have hp:aI (sZ x) key=if hasB dC key=true then aI x key else(zeroV,false):=h.Fb _ key
 unfold jX
 rw[if_pos h.k,h.tq]
 by_cases h5:(aI x aQ).1.k=5
 ·rw[if_pos h5]
  by_cases hk:key=aQ
  ·subst hk
   rw[h1.jO,if_pos vB,if_pos ⟨rfl,h5⟩]
  ·rw[h1.jy hk,hp]
   simp only[hk,false_and,if_false]
 ·rw[if_neg h5,hp]
  simp only[h5,and_false,if_false]
theorem O.bare{x:V}(h:O x):O (eZ x):=(h.wo _).wo _
theorem O.Mw{x:V}(h:O x)(key:ByteArray):aI (eZ x) key=if key=bq\/key=ic then(zeroV,false) else aI x key:=by
 unfold eZ
 by_cases h2:key=ic
 ·subst h2;rw[(h.wo _).Pe,if_pos (.inr U)]
 ·rw[(h.wo _).tQ h2]
  by_cases h1:key=bq
  ·subst h1;rw[h.Pe,if_pos (.inl U)]
  ·rw[h.tQ h1,if_neg (by rintro(e|e);exact h1 e;exact h2 e)]
theorem O.bare_eq{x y:V}(hx:O x)(hy:O y)(h:∀key,key≠bq->key≠ic->aI x key=aI y key):eZ x=eZ y:=by
 refine hx.bare.ext hy.bare λkey=>?_
 rw[hx.Mw,hy.Mw]
 by_cases hk:key=bq\/key=ic
 ·rw[if_pos hk,if_pos hk]
 ·rw[if_neg hk,if_neg hk,h key (λe=>hk (.inl e)) (λe=>hk (.inr e))]
theorem O.hash_eq{x y:V}(hx:O x)(hy:O y)(h:∀key,key≠bq->key≠ic->aI x key=aI y key):gX x=gX y:=by unfold gX;rw[hx.bare_eq hy h]
theorem O.J8{x:V}(h:O x):O (kD x):=h.with _ _
theorem O.Mx{x:V}(h:O x):gX (kD x)=gX x:=h.J8.hash_eq h λkey h1 _=>h.jy h1 _
theorem RS(t:ByteArray):aI (nO t) fQ=(cK t,true):=zD.jO fQ (cK t)
theorem RU{x:V}{t:ByteArray}(h:aI x bq=(nO t,true)):kE x=(t.toList==(gX x).toList):=by
 unfold kE
 rw[h]
 show gp (aI (nO t) fQ).1 _=_
 rw[RS]
 exact UM _ _
end Go.Proofs.YtonpfomjoiaacaaGreatDoor
end
