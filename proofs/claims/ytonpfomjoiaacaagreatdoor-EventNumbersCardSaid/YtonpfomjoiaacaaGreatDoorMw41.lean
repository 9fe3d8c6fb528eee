/- A part of the proof. -/
import Derived.Test.YtonpfomjoiaacaaGreatDoorMw38
set_option maxRecDepth 100000
set_option maxHeartbeats 4000000
set_option linter.unusedSectionVars false
set_option linter.unusedVariables false
set_option linter.unusedSimpArgs false
section
namespace Go.Proofs.YtonpfomjoiaacaaGreatDoor
open Go Go.iG Go.RowKit
def bV(ty key:ByteArray)(is:Bool)(prev bL:List ByteArray)(d t:Int):EV:=⟨⟨#[]⟩,ty,key,is,⟨#[64,97,58,115]⟩,DJ,prev,bL,d,t,lN⟩
theorem nU{ty key:ByteArray}{is:Bool}{prev bL:List ByteArray}{d t:Int}(hp:prev.length<=24/\∀s∈prev,s.size<=44/\jc s=true)(ha:bL.length<=24/\∀s∈bL,s.size<=44/\jc s=true)(ht:ty.size<=100/\key.size<=100)(hd:(-9223372036854775808<=d/\d<=9223372036854775807)/\ -9223372036854775808<=t/\t<=9223372036854775807):D9 (bV ty key is prev bL d t):=
 WZ U hp ha ht hd (by kernel_rfl) (by kernel_rfl)
theorem lW{ty key:ByteArray}{is:Bool}{prev bL:List ByteArray}{d t:Int}:ma (bV ty key is prev bL d t)=(oP ty&&dI prev&&dI bL&&decide (0<=d)&&decide (0<=t)&&(!is||decide (key.size<=80))):=by
 unfold ma Bu
 rw[show jU (bV ty key is prev bL d t).sender=true by kernel_rfl,show jV (bV ty key is prev bL d t).room=true by kernel_rfl,Bool.and_true,Bool.and_true]
 rfl
theorem qZ{ty key:ByteArray}{is:Bool}{prev bL:List ByteArray}{d t:Int}(hs:D9 (bV ty key is prev bL d t)):ic (aL (bV ty key is prev bL d t))=if ma (bV ty key is prev bL d t)=true then({nS (bV ty key is prev bL d t) with id:=oI (aL (bV ty key is prev bL d t))},0) else(zeroE,15):=by
 by_cases h:ma (bV ty key is prev bL d t)=true
 ·rw[if_pos h,Da hs h]
 ·rw[if_neg h,OG hs (by simpa using h)]
theorem Dc{s:ByteArray}:dI [s]=jB s:=by
 cases h:jB s with
 |true=>exact Jz (by simp) (λx hx=>by rw[List.mem_singleton.1 hx];exact h) (List.pairwise_singleton ..)
 |false=>exact OC (i:=0) (by simp) (.inl h)
def DU(n:Int):Nat:=[0,1,79,80,81,(n.tdiv 3).toNat].getD (n.tmod 6).toNat 0
theorem OV{n:Int}(h0:0<=n)(h1:n<=255):DU n<=85:=by
 have m0:=Int.tmod_nonneg 6 h0
 have m1:=Int.tmod_lt_of_pos n (by decide:(0:Int)<6)
 have h3:(n.tdiv 3).toNat<=85:=by rw[Int.tdiv_eq_ediv_of_nonneg h0];omega
 unfold DU
 have:(n.tmod 6).toNat<6:=by omega
 match h:(n.tmod 6).toNat,this with
 |0,_=>exact(by decide:(0:Nat)<=85)
 |1,_=>exact(by decide:(1:Nat)<=85)
 |2,_=>exact(by decide:(79:Nat)<=85)
 |3,_=>exact(by decide:(80:Nat)<=85)
 |4,_=>exact(by decide:(81:Nat)<=85)
 |5,_=>exact h3
theorem JH(n:Int)(h0:0<=n)(h1:n<=255)(H:Hp):au Tryz.prog 25 [.v (.int .u8 n)] H (bB H (.v (.int .i64 ((DU n:Nat):Int)))):=by
 have m0:=Int.tmod_nonneg 6 h0
 have m1:=Int.tmod_lt_of_pos n (by decide:(0:Int)<6)
 have hq:IntKind.u8.wrap (n.tdiv 3)=n.tdiv 3:=by rw[IntKind.wrap_u8,Int.tdiv_eq_ediv_of_nonneg h0];omega
 have hq0:0<=n.tdiv 3/\n.tdiv 3<=85:=by rw[Int.tdiv_eq_ediv_of_nonneg h0];omega
 have hg:([0,1,79,80,81,n.tdiv 3].map λx:Int=>[AV.v (.int .i64 x)])[(n.tmod 6).toNat]? =some [.v (.int .i64 ((DU n:Nat):Int))]:=by
  unfold DU
  have:(n.tmod 6).toNat<6:=by omega
  match h:(n.tmod 6).toNat,this with
  |0,_=>rfl
  |1,_=>rfl
  |2,_=>rfl
  |3,_=>rfl
  |4,_=>rfl
  |5,_=>
   have:(((n.tdiv 3).toNat:Nat):Int)=n.tdiv 3:=Int.toNat_of_nonneg hq0.1
   show some [AV.v (.int .i64 (n.tdiv 3))]=some [AV.v (.int .i64 (((n.tdiv 3).toNat:Nat):Int))]
   rw[this]
 generalize DU n=r at*
 refine aF (n:=11) (H0:=H) (I:=[]) Tryz.func25 (by kernel_rfl) U (by rw[Tryz.ntmps25];rfl) .nil<|?_
 refine Q.rg<|Q.as U<|Q.nt<|Q.rg<|Q.mv U<|S.qu (Z.eq (u':=.v (.int .u8 (n.tdiv 3))) (Z.bi U U U) (by rw[hq]))<|?_
 refine S.qu (Z.cv Tryz.underlying3 U (IntWalk.i64_in _ (by omega)) (by rw[Tryz.underlying5];rfl))<|?_
 refine S.qu (Z.bl wI U U (bz U))<|Q.mv U<|Q.bi U U U<|S.qu (Z.ia AA U U (by omega) hg (by rfl))<|?_
 refine S.qu (Z.fO fB U)<|Q.as U<|Q.nt<|UW.ret<|S.bH (λ_=>ak U U)<|?_
 rfl
theorem Mv(d t n m:Int)(is:Bool)(hd0: -9223372036854775808<=d)(hd1:d<=9223372036854775807)(ht0: -9223372036854775808<=t)(ht1:t<=9223372036854775807)(hn0:0<=n)(hn1:n<=255)(hm0:0<=m)(hm1:m<=255)(H:Hp)(hG:fA H):
 au Tryz.prog 5 [.v (.int .i64 d),.v (.int .i64 t),.v (.int .u8 n),.v (.int .u8 m),.v (.bool is)] H (bB H (.v (.bool true))):=by
 have n1:=λH=>JH n hn0 hn1 H
 have n2:=λH=>JH m hm0 hm1 H
 have ha:=OV hn0 hn1
 have hb:=OV hm0 hm1
 generalize DU n=a at*
 generalize DU m=b at*
 have l1:=λH=>JE a (by omega) H
 have l2:=λH=>JE b (by omega) H
 have hdr:d.tmod 9007199254740992<=9007199254740991/\ -9007199254740991<=d.tmod 9007199254740992:=by
  have:=Int.tmod_lt_of_pos d (by decide:(0:Int)<9007199254740992)
  have:=Int.lt_tmod_of_pos d (by decide:(0:Int)<9007199254740992)
  omega
 have htr:t.tmod 9007199254740992<=9007199254740991/\ -9007199254740991<=t.tmod 9007199254740992:=by
  have:=Int.tmod_lt_of_pos t (by decide:(0:Int)<9007199254740992)
  have:=Int.lt_tmod_of_pos t (by decide:(0:Int)<9007199254740992)
  omega
 generalize hdd:d.tmod 9007199254740992=dd at*
 generalize htt:t.tmod 9007199254740992=tt at*
 have hs:D9 (bV (eU a) (eU b) is [] [] dd tt):=nU ⟨by decide,(λs h=>by cases h)⟩ ⟨by decide,(λs h=>by cases h)⟩ ⟨by rw[kN];omega,by rw[kN];omega⟩ ⟨by omega,by omega,by omega⟩
 have hfi:=lW (ty:=eU a) (key:=eU b) (is:=is) (prev:=[]) (bL:=[]) (d:=dd) (t:=tt)
 have mk:=λH h=>mg _ hs.toSm H h
 have rd:=λH h=>iO _ (pG hs.make (fD _) hs).rw H h
 rw[qZ hs] at rd
 have OZ:(ma (bV (eU a) (eU b) is [] [] dd tt)=true)↔(1<=a/\a<=80/\0<=dd/\0<=tt/\(is=true->b<=80)):=by
  rw[hfi]
  unfold oP
  rw[kN,kN,show dI []=true by kernel_rfl]
  cases is<;>simp<;>omega
 clear hs hfi
 generalize ma (bV (eU a) (eU b) is [] [] dd tt)=fb at*
 generalize oI (aL (bV (eU a) (eU b) is [] [] dd tt))=iid at*
 have hcl:nS (bV (eU a) (eU b) is [] [] dd tt)=bV (eU a) (if is=true then eU b else⟨#[]⟩) is [] [] dd tt:=rfl
 rw[hcl] at rd
 generalize aL (bV (eU a) (eU b) is [] [] dd tt)=v at*
 obtain⟨v0,v1,v2,v3,v4⟩:=v
 have hz1:=kN a
 have hz2:=kN b
 cases is with
 |true=>
  have hq1:(bV (eU a) (eU b) true [] [] dd tt).depth=dd:=rfl
  have hq2:(bV (eU a) (eU b) true [] [] dd tt).time=tt:=rfl
  cases fb with
  |true=>
   have h5:=OZ.1 U
   have rd:∀H,fA H->au Tryz.prog 15 [.agg (aC (.mk v0 v1 v2 v3 v4))] H (bB H (.kX [.agg (gZ ⟨iid,eU a,eU b,true,⟨#[64,97,58,115]⟩,DJ,[],[],dd,tt,lN⟩),.v (.int .u16 0)])):=λH h=>rd H h
   have h6:=h5.2.2.2.2 U
   refine aF (n:=120) (H0:=H) (I:=[]) Tryz.func5 (by kernel_rfl) U (by rw[Tryz.ntmps5];rfl) .nil<|?_
   focus
    refine Q.rg<|Q.as U<|Q.nt<|Q.rg<|Q.mv U<|S.qu (Z.call U U (λH=>n1 H))<|Q.as U<|Q.nt<|Q.rg<|Q.mv U<|S.qu (Z.call U U (λH=>n2 H))<|Q.as U<|Q.nt<|Q.rg<|Q.mv U<|S.qu (Z.call U U (λH=>l1 H))<|Q.mv U<|S.qu (Z.call U U (λH=>l2 H))<|Q.mv U<|Q.mv U<|S.qu (Z.eq (u':=.v (.int .i64 dd)) (Z.bi U U U) (by rw[hdd]))<|?_
    refine Q.mv U<|S.qu (Z.eq (u':=.v (.int .i64 tt)) (Z.bi U U U) (by rw[htt]))<|?_
    refine S.qu (Z.eq (u':=.agg (aC lN)) (Z.bd [0] gU U U U U U U) U)<|S.qu (Z.eq (u':=.agg (gZ (bV (eU a) (eU b) true [] [] dd tt))) (Z.bd [1,2,3,4,5,8,9,10] wh U U U U U U) U)<|S.dd<|D.al z28 U U U λUI=>S.s<|D.st 0 di U U U U U U U U λ_=>Q.nt<|Q.rg<|S.qu (Z.bW 0 di U U U)<|S.qu (Z.bK U U (λ_ hS=>mk _ (hG.mono hS)))<|S.qu (Z.bK U U (λ_ hS=>rd _ (hG.mono hS)))<|Q.mv U<|S.qu (Z.ex U U)<|S.qu (Z.ex U U)<|S.dd<|D.al z28 U U U λMx=>S.s<|D.st 0 di U U U U U U U U λ_=>Q.as U<|Q.nt<|Q.rg<|Q.fa mX U<|Q.lc 1 lg U U U<|Q.bi U U U<|Q.mv U<|?_
    refine S.tD 42 (λKX=>?_) (λKX=>?_)
    rotate_left
    omega
    refine Q.on (Z.fa mY U)<|Q.on (Z.dM 1 lg U U U)<|Q.on (Z.bi U U U)<|Q.pk U U<|Q.mv U<|?_
    refine S.tD 47 (λhc47=>?_) (λhc47=>?_)
    rotate_left
    omega
    refine Q.on (Z.mv U)<|Q.on (Z.bi U U U)<|Q.pk U U<|Q.mv U<|?_
    refine S.tD 51 (λFC=>?_) (λFC=>?_)
    rotate_left
    omega
    refine Q.on (Z.mv U)<|Q.on (Z.bi U U U)<|Q.pk U U<|Q.mv U<|?_
    refine S.tD 55 (λKY=>?_) (λKY=>?_)
    rotate_left
    omega
    refine Q.on (Z.mv U)<|Q.on (Z.not U)<|Q.on (Z.mv U)<|S.tF 58 U<|Q.on (Z.mv U)<|Q.on (Z.eq (u':=.v (.bool true)) (Z.bi U U U) (congrArg (λb=>AV.v (.bool b)) (decide_eq_true (by omega))))<|Q.on (Z.pick U U)<|Q.pk U U<|Q.as U<|Q.nt<|Q.rg<|Q.fa mX U<|Q.lc 0 lg U U U<|Q.fa mX U<|Q.lc 1 lg U U U<|Q.bi U U U<|Q.mv U<|?_
    refine S.tE 68 (λGG=>?_) (λGG=>?_)
    rotate_left
    contradiction
    refine Q.on (Z.fa mY U)<|Q.on (Z.dM 0 lg U U U)<|Q.on (Z.fa mY U)<|Q.on (Z.dM 1 lg U U U)<|Q.on (Z.bi U U U)<|Q.pk U U<|Q.mv U<|?_
    refine S.tE 75 (λFE=>?_) (λFE=>?_)
    rotate_left
    contradiction
    refine Q.on (Z.fa qW U)<|Q.on (Z.dM 0 dW U U U)<|Q.on (Z.fa qW U)<|Q.on (Z.dM 1 dW U U U)<|Q.on (Z.bs U U U)<|Q.pk U U<|Q.mv U<|?_
    refine S.tE 82 (λvQ=>?_) (λvQ=>?_)
    rotate_left
    contradiction
    refine Q.on (Z.fa jW U)<|Q.on (Z.dM 0 oo U U U)<|Q.on (Z.mv U)<|Q.on (Z.beq Tryz.underlying4 U U)<|Q.pk U U<|Q.mv U<|?_
    refine S.tE 88 (λRu=>?_) (λRu=>?_)
    rotate_left
    contradiction
    refine Q.on (Z.mv U)<|Q.on (Z.not U)<|Q.on (Z.mv U)<|S.tF 91 U<|Q.on (Z.fa sD U)<|Q.on (Z.dM 0 dW U U U)<|Q.on (Z.fa sD U)<|Q.on (Z.dM 1 dW U U U)<|Q.on (Z.bs U U U)<|Q.on (Z.pick U U)<|Q.pk U U<|Q.as U<|Q.nt<|Q.rg<|S.qu (Z.bK U U (λ_ hS=>ig _ (hG.mono hS)))<|Q.mv U<|Q.on (Z.mv U)<|Q.on (Z.bi U U U)<|Q.on (Z.mv U)<|Q.on (Z.beq Tryz.underlying4 U U)<|Q.pk U U<|Q.mv U<|S.tT 106 (jP (by assumption))<|?_
    refine Q.on (Z.mv U)<|Q.on (Z.mv U)<|Q.on (Z.mv U)<|Q.on (Z.pick U U)<|Q.on (Z.mv U)<|?_
    refine S.tE 111 (λhc111=>?_) (λhc111=>?_)
    rotate_left
    contradiction
    refine Q.of<|Q.of<|Q.of<|Q.ou<|Q.ou<|Q.of<|Q.on (Z.pick U U)<|Q.pk U U<|Q.as U<|Q.nt<|UW.ret<|S.bH (λ_=>ak U U)<|?_
    rfl
  |false=>
   rw[if_neg (by decide)] at rd
   generalize zeroE=z at*
   obtain⟨yi,yt,yk,ys,yu,yr,yp,ya,yd,ym,yb⟩:=z
   obtain⟨b0,b1,b2,b3,b4⟩:=yb
   simp only at rd
   have hnf:¬(1<=a/\a<=80/\0<=dd/\0<=tt/\b<=80):=λh=>by have:=OZ.2 ⟨h.1,h.2.1,h.2.2.1,h.2.2.2.1,λ_=>h.2.2.2.2⟩;cases this
   refine aF (n:=120) (H0:=H) (I:=[]) Tryz.func5 (by kernel_rfl) U (by rw[Tryz.ntmps5];rfl) .nil<|?_
   focus
    refine Q.rg<|Q.as U<|Q.nt<|Q.rg<|Q.mv U<|S.qu (Z.call U U (λH=>n1 H))<|Q.as U<|Q.nt<|Q.rg<|Q.mv U<|S.qu (Z.call U U (λH=>n2 H))<|Q.as U<|Q.nt<|Q.rg<|Q.mv U<|S.qu (Z.call U U (λH=>l1 H))<|Q.mv U<|S.qu (Z.call U U (λH=>l2 H))<|Q.mv U<|Q.mv U<|S.qu (Z.eq (u':=.v (.int .i64 dd)) (Z.bi U U U) (by rw[hdd]))<|?_
    refine Q.mv U<|S.qu (Z.eq (u':=.v (.int .i64 tt)) (Z.bi U U U) (by rw[htt]))<|?_
    refine S.qu (Z.eq (u':=.agg (aC lN)) (Z.bd [0] gU U U U U U U) U)<|S.qu (Z.eq (u':=.agg (gZ (bV (eU a) (eU b) true [] [] dd tt))) (Z.bd [1,2,3,4,5,8,9,10] wh U U U U U U) U)<|S.dd<|D.al z28 U U U λUI=>S.s<|D.st 0 di U U U U U U U U λ_=>Q.nt<|Q.rg<|S.qu (Z.bW 0 di U U U)<|S.qu (Z.bK U U (λ_ hS=>mk _ (hG.mono hS)))<|S.qu (Z.bK U U (λ_ hS=>rd _ (hG.mono hS)))<|Q.mv U<|S.qu (Z.ex U U)<|S.qu (Z.ex U U)<|S.dd<|D.al z28 U U U λMx=>S.s<|D.st 0 di U U U U U U U U λ_=>Q.as U<|Q.nt<|?_
    refine S.cut [(16,.v (.bool false)),(15,.v (.int .u16 15)),(14,.ptr Mx 0),(13,.ptr UI 0),(4,.v (.bool true))] [(Mx,.box 28 (gZ ⟨yi,yt,yk,ys,yu,yr,yp,ya,yd,ym,.mk b0 b1 b2 b3 b4⟩)),(UI,.box 28 (gZ (bV (eU a) (eU b) true [] [] dd tt)))] True ?_ (λ_=>?_)
    refine S.rg<|Q.fa mX U<|Q.lc 1 lg U U U<|Q.bi U U U<|Q.mv U<|?_
    refine S.tD 42 (λKX=>?_) (λKX=>?_)
    refine Q.on (Z.fa mY U)<|Q.on (Z.dM 1 lg U U U)<|Q.on (Z.bi U U U)<|Q.pk U U<|Q.mv U<|?_
    refine S.tD 47 (λhc47=>?_) (λhc47=>?_)
    refine Q.on (Z.mv U)<|Q.on (Z.bi U U U)<|Q.pk U U<|Q.mv U<|?_
    refine S.tD 51 (λFC=>?_) (λFC=>?_)
    refine Q.on (Z.mv U)<|Q.on (Z.bi U U U)<|Q.pk U U<|Q.mv U<|?_
    refine S.tD 55 (λKY=>?_) (λKY=>?_)
    refine Q.on (Z.mv U)<|Q.on (Z.not U)<|Q.on (Z.mv U)<|S.tF 58 U<|Q.on (Z.mv U)<|Q.on (Z.eq (u':=.v (.bool false)) (Z.bi U U U) (congrArg (λb=>AV.v (.bool b)) (decide_eq_false (by omega))))<|Q.on (Z.pick U U)<|Q.pk U U<|Q.as U<|US.nil<|?_
    refine S.fin ⟨rfl,rfl,rfl,rfl,rfl,trivial⟩ (.refl _) trivial
    refine Q.of<|Q.of<|Q.of<|Q.ou<|Q.ou<|Q.of<|Q.pk U U<|Q.as U<|US.nil<|?_
    refine S.fin ⟨rfl,rfl,rfl,rfl,rfl,trivial⟩ (.refl _) trivial
    refine Q.of<|Q.of<|Q.pk U U<|Q.mv U<|Q.of<|Q.of<|Q.of<|Q.ou<|Q.ou<|Q.of<|Q.pk U U<|Q.as U<|US.nil<|?_
    refine S.fin ⟨rfl,rfl,rfl,rfl,rfl,trivial⟩ (.refl _) trivial
    refine Q.of<|Q.of<|Q.pk U U<|Q.mv U<|Q.of<|Q.of<|Q.pk U U<|Q.mv U<|Q.of<|Q.of<|Q.of<|Q.ou<|Q.ou<|Q.of<|Q.pk U U<|Q.as U<|US.nil<|?_
    refine S.fin ⟨rfl,rfl,rfl,rfl,rfl,trivial⟩ (.refl _) trivial
    refine Q.of<|Q.of<|Q.of<|Q.pk U U<|Q.mv U<|Q.of<|Q.of<|Q.pk U U<|Q.mv U<|Q.of<|Q.of<|Q.pk U U<|Q.mv U<|Q.of<|Q.of<|Q.of<|Q.ou<|Q.ou<|Q.of<|Q.pk U U<|Q.as U<|US.nil<|?_
    refine S.fin ⟨rfl,rfl,rfl,rfl,rfl,trivial⟩ (.refl _) trivial
    refine S.E5 (λx2:Bool=>[(17,.v (.bool x2)),(16,.v (.bool false)),(15,.v (.int .u16 15))]) (λ_=>[]) (λ_=>True) ?_ (λx2 hx2=>?_)
    refine S.rg<|Q.fa mX U<|Q.lc 0 lg U U U<|Q.fa mX U<|Q.lc 1 lg U U U<|Q.bi U U U<|Q.mv U<|?_
    refine S.tE 68 (λGG=>?_) (λGG=>?_)
    refine Q.on (Z.fa mY U)<|Q.on (Z.dM 0 lg U U U)<|Q.on (Z.fa mY U)<|Q.on (Z.dM 1 lg U U U)<|Q.on (Z.bi U U U)<|Q.pk U U<|Q.mv U<|?_
    refine S.tE 75 (λFE=>?_) (λFE=>?_)
    refine Q.on (Z.fa qW U)<|Q.on (Z.dM 0 dW U U U)<|Q.on (Z.fa qW U)<|Q.on (Z.dM 1 dW U U U)<|Q.on (Z.bs U U U)<|Q.pk U U<|Q.mv U<|?_
    refine S.tE 82 (λvQ=>?_) (λvQ=>?_)
    refine Q.on (Z.fa jW U)<|Q.on (Z.dM 0 oo U U U)<|Q.on (Z.mv U)<|Q.on (Z.beq Tryz.underlying4 U U)<|Q.pk U U<|Q.mv U<|?_
    refine S.tE 88 (λRu=>?_) (λRu=>?_)
    refine Q.on (Z.mv U)<|Q.on (Z.not U)<|Q.on (Z.mv U)<|S.tF 91 U<|Q.on (Z.fa sD U)<|Q.on (Z.dM 0 dW U U U)<|Q.on (Z.fa sD U)<|Q.on (Z.dM 1 dW U U U)<|Q.on (Z.bs U U U)<|Q.on (Z.pick U U)<|Q.pk U U<|Q.as U<|US.nil<|?_
    refine S.iD _ ⟨rfl,rfl,rfl,trivial⟩ (List.nil_sublist _) trivial
    refine Q.of<|Q.of<|Q.of<|Q.ou<|Q.ou<|Q.ou<|Q.ou<|Q.ou<|Q.of<|Q.pk U U<|Q.as U<|US.nil<|?_
    refine S.iD _ ⟨rfl,rfl,rfl,trivial⟩ (List.nil_sublist _) trivial
    refine Q.of<|Q.of<|Q.of<|Q.of<|Q.pk U U<|Q.mv U<|Q.of<|Q.of<|Q.of<|Q.ou<|Q.ou<|Q.ou<|Q.ou<|Q.ou<|Q.of<|Q.pk U U<|Q.as U<|US.nil<|?_
    refine S.iD _ ⟨rfl,rfl,rfl,trivial⟩ (List.nil_sublist _) trivial
    refine Q.of<|Q.of<|Q.of<|Q.of<|Q.of<|Q.pk U U<|Q.mv U<|Q.of<|Q.of<|Q.of<|Q.of<|Q.pk U U<|Q.mv U<|Q.of<|Q.of<|Q.of<|Q.ou<|Q.ou<|Q.ou<|Q.ou<|Q.ou<|Q.of<|Q.pk U U<|Q.as U<|US.nil<|?_
    refine S.iD _ ⟨rfl,rfl,rfl,trivial⟩ (List.nil_sublist _) trivial
    refine Q.of<|Q.of<|Q.of<|Q.of<|Q.of<|Q.pk U U<|Q.mv U<|Q.of<|Q.of<|Q.of<|Q.of<|Q.of<|Q.pk U U<|Q.mv U<|Q.of<|Q.of<|Q.of<|Q.of<|Q.pk U U<|Q.mv U<|Q.of<|Q.of<|Q.of<|Q.ou<|Q.ou<|Q.ou<|Q.ou<|Q.ou<|Q.of<|Q.pk U U<|Q.as U<|US.nil<|?_
    refine S.iD _ ⟨rfl,rfl,rfl,trivial⟩ (List.nil_sublist _) trivial
    refine Q.rg<|S.qu (Z.bK U U (λ_ hS=>ig _ (hG.mono hS)))<|Q.mv U<|Q.on (Z.mv U)<|Q.on (Z.bi U U U)<|Q.on (Z.mv U)<|Q.on (Z.beq Tryz.underlying4 U U)<|Q.pk U U<|Q.mv U<|?_
    refine S.tE 106 (λXc=>?_) (λXc=>?_)
    rotate_left
    contradiction
    refine Q.on (Z.mv U)<|Q.on (Z.mv U)<|Q.of<|Q.on (Z.pick U U)<|Q.on (Z.mv U)<|Q.on (Z.mv U)<|Q.on (Z.not U)<|Q.on (Z.mv U)<|S.tT 114 U<|Q.on (Z.mv U)<|Q.on (Z.bi U U U)<|Q.on (Z.pick U U)<|Q.on (Z.pick U U)<|Q.pk U U<|Q.as U<|Q.nt<|UW.ret<|S.bH (λ_=>ak U U)<|?_
    rfl
 |false=>
  have hq1:(bV (eU a) (eU b) false [] [] dd tt).depth=dd:=rfl
  have hq2:(bV (eU a) (eU b) false [] [] dd tt).time=tt:=rfl
  cases fb with
  |true=>
   have h5:=OZ.1 U
   have rd:∀H,fA H->au Tryz.prog 15 [.agg (aC (.mk v0 v1 v2 v3 v4))] H (bB H (.kX [.agg (gZ ⟨iid,eU a,⟨#[]⟩,false,⟨#[64,97,58,115]⟩,DJ,[],[],dd,tt,lN⟩),.v (.int .u16 0)])):=λH h=>rd H h
   refine aF (n:=120) (H0:=H) (I:=[]) Tryz.func5 (by kernel_rfl) U (by rw[Tryz.ntmps5];rfl) .nil<|?_
   focus
    refine Q.rg<|Q.as U<|Q.nt<|Q.rg<|Q.mv U<|S.qu (Z.call U U (λH=>n1 H))<|Q.as U<|Q.nt<|Q.rg<|Q.mv U<|S.qu (Z.call U U (λH=>n2 H))<|Q.as U<|Q.nt<|Q.rg<|Q.mv U<|S.qu (Z.call U U (λH=>l1 H))<|Q.mv U<|S.qu (Z.call U U (λH=>l2 H))<|Q.mv U<|Q.mv U<|S.qu (Z.eq (u':=.v (.int .i64 dd)) (Z.bi U U U) (by rw[hdd]))<|?_
    refine Q.mv U<|S.qu (Z.eq (u':=.v (.int .i64 tt)) (Z.bi U U U) (by rw[htt]))<|?_
    refine S.qu (Z.eq (u':=.agg (aC lN)) (Z.bd [0] gU U U U U U U) U)<|S.qu (Z.eq (u':=.agg (gZ (bV (eU a) (eU b) false [] [] dd tt))) (Z.bd [1,2,3,4,5,8,9,10] wh U U U U U U) U)<|S.dd<|D.al z28 U U U λUI=>S.s<|D.st 0 di U U U U U U U U λ_=>Q.nt<|Q.rg<|S.qu (Z.bW 0 di U U U)<|S.qu (Z.bK U U (λ_ hS=>mk _ (hG.mono hS)))<|S.qu (Z.bK U U (λ_ hS=>rd _ (hG.mono hS)))<|Q.mv U<|S.qu (Z.ex U U)<|S.qu (Z.ex U U)<|S.dd<|D.al z28 U U U λMx=>S.s<|D.st 0 di U U U U U U U U λ_=>Q.as U<|Q.nt<|Q.rg<|Q.fa mX U<|Q.lc 1 lg U U U<|Q.bi U U U<|Q.mv U<|?_
    refine S.tD 42 (λKX=>?_) (λKX=>?_)
    rotate_left
    omega
    refine Q.on (Z.fa mY U)<|Q.on (Z.dM 1 lg U U U)<|Q.on (Z.bi U U U)<|Q.pk U U<|Q.mv U<|?_
    refine S.tD 47 (λhc47=>?_) (λhc47=>?_)
    rotate_left
    omega
    refine Q.on (Z.mv U)<|Q.on (Z.bi U U U)<|Q.pk U U<|Q.mv U<|?_
    refine S.tD 51 (λFC=>?_) (λFC=>?_)
    rotate_left
    omega
    refine Q.on (Z.mv U)<|Q.on (Z.bi U U U)<|Q.pk U U<|Q.mv U<|?_
    refine S.tD 55 (λKY=>?_) (λKY=>?_)
    rotate_left
    omega
    refine Q.on (Z.mv U)<|Q.on (Z.not U)<|Q.on (Z.mv U)<|S.tT 58 U<|Q.of<|Q.of<|Q.on (Z.pick U U)<|Q.pk U U<|Q.as U<|Q.nt<|Q.rg<|Q.fa mX U<|Q.lc 0 lg U U U<|Q.fa mX U<|Q.lc 1 lg U U U<|Q.bi U U U<|Q.mv U<|?_
    refine S.tE 68 (λGG=>?_) (λGG=>?_)
    rotate_left
    contradiction
    refine Q.on (Z.fa mY U)<|Q.on (Z.dM 0 lg U U U)<|Q.on (Z.fa mY U)<|Q.on (Z.dM 1 lg U U U)<|Q.on (Z.bi U U U)<|Q.pk U U<|Q.mv U<|?_
    refine S.tE 75 (λFE=>?_) (λFE=>?_)
    rotate_left
    contradiction
    refine Q.on (Z.fa qW U)<|Q.on (Z.dM 0 dW U U U)<|Q.on (Z.fa qW U)<|Q.on (Z.dM 1 dW U U U)<|Q.on (Z.bs U U U)<|Q.pk U U<|Q.mv U<|?_
    refine S.tE 82 (λvQ=>?_) (λvQ=>?_)
    rotate_left
    contradiction
    refine Q.on (Z.fa jW U)<|Q.on (Z.dM 0 oo U U U)<|Q.on (Z.mv U)<|Q.on (Z.beq Tryz.underlying4 U U)<|Q.pk U U<|Q.mv U<|?_
    refine S.tE 88 (λRu=>?_) (λRu=>?_)
    rotate_left
    contradiction
    refine Q.on (Z.mv U)<|Q.on (Z.not U)<|Q.on (Z.mv U)<|S.tT 91 U<|Q.of<|Q.of<|Q.of<|Q.of<|Q.of<|Q.on (Z.pick U U)<|Q.pk U U<|Q.as U<|Q.nt<|Q.rg<|S.qu (Z.bK U U (λ_ hS=>ig _ (hG.mono hS)))<|Q.mv U<|Q.on (Z.mv U)<|Q.on (Z.bi U U U)<|Q.on (Z.mv U)<|Q.on (Z.beq Tryz.underlying4 U U)<|Q.pk U U<|Q.mv U<|S.tT 106 (jP (by assumption))<|?_
    refine Q.on (Z.mv U)<|Q.on (Z.mv U)<|Q.on (Z.mv U)<|Q.on (Z.pick U U)<|Q.on (Z.mv U)<|Q.of<|Q.of<|Q.of<|Q.ou<|Q.ou<|Q.of<|Q.on (Z.pick U U)<|Q.pk U U<|Q.as U<|Q.nt<|UW.ret<|S.bH (λ_=>ak U U)<|?_
    rfl
  |false=>
   rw[if_neg (by decide)] at rd
   generalize zeroE=z at*
   obtain⟨yi,yt,yk,ys,yu,yr,yp,ya,yd,ym,yb⟩:=z
   obtain⟨b0,b1,b2,b3,b4⟩:=yb
   simp only at rd
   have hnf:¬(1<=a/\a<=80/\0<=dd/\0<=tt):=λh=>by have:=OZ.2 ⟨h.1,h.2.1,h.2.2.1,h.2.2.2,λh=>by cases h⟩;cases this
   refine aF (n:=120) (H0:=H) (I:=[]) Tryz.func5 (by kernel_rfl) U (by rw[Tryz.ntmps5];rfl) .nil<|?_
   focus
    refine Q.rg<|Q.as U<|Q.nt<|Q.rg<|Q.mv U<|S.qu (Z.call U U (λH=>n1 H))<|Q.as U<|Q.nt<|Q.rg<|Q.mv U<|S.qu (Z.call U U (λH=>n2 H))<|Q.as U<|Q.nt<|Q.rg<|Q.mv U<|S.qu (Z.call U U (λH=>l1 H))<|Q.mv U<|S.qu (Z.call U U (λH=>l2 H))<|Q.mv U<|Q.mv U<|S.qu (Z.eq (u':=.v (.int .i64 dd)) (Z.bi U U U) (by rw[hdd]))<|?_
    refine Q.mv U<|S.qu (Z.eq (u':=.v (.int .i64 tt)) (Z.bi U U U) (by rw[htt]))<|?_
    refine S.qu (Z.eq (u':=.agg (aC lN)) (Z.bd [0] gU U U U U U U) U)<|S.qu (Z.eq (u':=.agg (gZ (bV (eU a) (eU b) false [] [] dd tt))) (Z.bd [1,2,3,4,5,8,9,10] wh U U U U U U) U)<|S.dd<|D.al z28 U U U λUI=>S.s<|D.st 0 di U U U U U U U U λ_=>Q.nt<|Q.rg<|S.qu (Z.bW 0 di U U U)<|S.qu (Z.bK U U (λ_ hS=>mk _ (hG.mono hS)))<|S.qu (Z.bK U U (λ_ hS=>rd _ (hG.mono hS)))<|Q.mv U<|S.qu (Z.ex U U)<|S.qu (Z.ex U U)<|S.dd<|D.al z28 U U U λMx=>S.s<|D.st 0 di U U U U U U U U λ_=>Q.as U<|Q.nt<|?_
    refine S.cut [(16,.v (.bool false)),(15,.v (.int .u16 15)),(14,.ptr Mx 0),(13,.ptr UI 0),(4,.v (.bool false))] [(Mx,.box 28 (gZ ⟨yi,yt,yk,ys,yu,yr,yp,ya,yd,ym,.mk b0 b1 b2 b3 b4⟩)),(UI,.box 28 (gZ (bV (eU a) (eU b) false [] [] dd tt)))] True ?_ (λ_=>?_)
    refine S.rg<|Q.fa mX U<|Q.lc 1 lg U U U<|Q.bi U U U<|Q.mv U<|?_
    refine S.tD 42 (λKX=>?_) (λKX=>?_)
    refine Q.on (Z.fa mY U)<|Q.on (Z.dM 1 lg U U U)<|Q.on (Z.bi U U U)<|Q.pk U U<|Q.mv U<|?_
    refine S.tD 47 (λhc47=>?_) (λhc47=>?_)
    refine Q.on (Z.mv U)<|Q.on (Z.bi U U U)<|Q.pk U U<|Q.mv U<|?_
    refine S.tD 51 (λFC=>?_) (λFC=>?_)
    refine Q.on (Z.mv U)<|Q.on (Z.bi U U U)<|Q.pk U U<|Q.mv U<|?_
    refine S.tD 55 (λKY=>?_) (λKY=>?_)
    omega
    refine Q.of<|Q.of<|Q.of<|Q.ou<|Q.ou<|Q.of<|Q.pk U U<|Q.as U<|US.nil<|?_
    refine S.fin ⟨rfl,rfl,rfl,rfl,rfl,trivial⟩ (.refl _) trivial
    refine Q.of<|Q.of<|Q.pk U U<|Q.mv U<|Q.of<|Q.of<|Q.of<|Q.ou<|Q.ou<|Q.of<|Q.pk U U<|Q.as U<|US.nil<|?_
    refine S.fin ⟨rfl,rfl,rfl,rfl,rfl,trivial⟩ (.refl _) trivial
    refine Q.of<|Q.of<|Q.pk U U<|Q.mv U<|Q.of<|Q.of<|Q.pk U U<|Q.mv U<|Q.of<|Q.of<|Q.of<|Q.ou<|Q.ou<|Q.of<|Q.pk U U<|Q.as U<|US.nil<|?_
    refine S.fin ⟨rfl,rfl,rfl,rfl,rfl,trivial⟩ (.refl _) trivial
    refine Q.of<|Q.of<|Q.of<|Q.pk U U<|Q.mv U<|Q.of<|Q.of<|Q.pk U U<|Q.mv U<|Q.of<|Q.of<|Q.pk U U<|Q.mv U<|Q.of<|Q.of<|Q.of<|Q.ou<|Q.ou<|Q.of<|Q.pk U U<|Q.as U<|US.nil<|?_
    refine S.fin ⟨rfl,rfl,rfl,rfl,rfl,trivial⟩ (.refl _) trivial
    refine S.E5 (λx2:Bool=>[(17,.v (.bool x2)),(16,.v (.bool false)),(15,.v (.int .u16 15))]) (λ_=>[]) (λ_=>True) ?_ (λx2 hx2=>?_)
    refine S.rg<|Q.fa mX U<|Q.lc 0 lg U U U<|Q.fa mX U<|Q.lc 1 lg U U U<|Q.bi U U U<|Q.mv U<|?_
    refine S.tE 68 (λGG=>?_) (λGG=>?_)
    refine Q.on (Z.fa mY U)<|Q.on (Z.dM 0 lg U U U)<|Q.on (Z.fa mY U)<|Q.on (Z.dM 1 lg U U U)<|Q.on (Z.bi U U U)<|Q.pk U U<|Q.mv U<|?_
    refine S.tE 75 (λFE=>?_) (λFE=>?_)
    refine Q.on (Z.fa qW U)<|Q.on (Z.dM 0 dW U U U)<|Q.on (Z.fa qW U)<|Q.on (Z.dM 1 dW U U U)<|Q.on (Z.bs U U U)<|Q.pk U U<|Q.mv U<|?_
    refine S.tE 82 (λvQ=>?_) (λvQ=>?_)
    refine Q.on (Z.fa jW U)<|Q.on (Z.dM 0 oo U U U)<|Q.on (Z.mv U)<|Q.on (Z.beq Tryz.underlying4 U U)<|Q.pk U U<|Q.mv U<|?_
    refine S.tE 88 (λRu=>?_) (λRu=>?_)
    refine Q.on (Z.mv U)<|Q.on (Z.not U)<|Q.on (Z.mv U)<|S.tT 91 U<|Q.of<|Q.of<|Q.of<|Q.of<|Q.of<|Q.on (Z.pick U U)<|Q.pk U U<|Q.as U<|US.nil<|?_
    refine S.iD _ ⟨rfl,rfl,rfl,trivial⟩ (List.nil_sublist _) trivial
    refine Q.of<|Q.of<|Q.of<|Q.ou<|Q.ou<|Q.ou<|Q.ou<|Q.ou<|Q.of<|Q.pk U U<|Q.as U<|US.nil<|?_
    refine S.iD _ ⟨rfl,rfl,rfl,trivial⟩ (List.nil_sublist _) trivial
    refine Q.of<|Q.of<|Q.of<|Q.of<|Q.pk U U<|Q.mv U<|Q.of<|Q.of<|Q.of<|Q.ou<|Q.ou<|Q.ou<|Q.ou<|Q.ou<|Q.of<|Q.pk U U<|Q.as U<|US.nil<|?_
    refine S.iD _ ⟨rfl,rfl,rfl,trivial⟩ (List.nil_sublist _) trivial
    refine Q.of<|Q.of<|Q.of<|Q.of<|Q.of<|Q.pk U U<|Q.mv U<|Q.of<|Q.of<|Q.of<|Q.of<|Q.pk U U<|Q.mv U<|Q.of<|Q.of<|Q.of<|Q.ou<|Q.ou<|Q.ou<|Q.ou<|Q.ou<|Q.of<|Q.pk U U<|Q.as U<|US.nil<|?_
    refine S.iD _ ⟨rfl,rfl,rfl,trivial⟩ (List.nil_sublist _) trivial
    refine Q.of<|Q.of<|Q.of<|Q.of<|Q.of<|Q.pk U U<|Q.mv U<|Q.of<|Q.of<|Q.of<|Q.of<|Q.of<|Q.pk U U<|Q.mv U<|Q.of<|Q.of<|Q.of<|Q.of<|Q.pk U U<|Q.mv U<|Q.of<|Q.of<|Q.of<|Q.ou<|Q.ou<|Q.ou<|Q.ou<|Q.ou<|Q.of<|Q.pk U U<|Q.as U<|US.nil<|?_
    refine S.iD _ ⟨rfl,rfl,rfl,trivial⟩ (List.nil_sublist _) trivial
    refine Q.rg<|S.qu (Z.bK U U (λ_ hS=>ig _ (hG.mono hS)))<|Q.mv U<|Q.on (Z.mv U)<|Q.on (Z.bi U U U)<|Q.on (Z.mv U)<|Q.on (Z.beq Tryz.underlying4 U U)<|Q.pk U U<|Q.mv U<|?_
    refine S.tE 106 (λXc=>?_) (λXc=>?_)
    rotate_left
    contradiction
    refine Q.on (Z.mv U)<|Q.on (Z.mv U)<|Q.of<|Q.on (Z.pick U U)<|Q.on (Z.mv U)<|Q.on (Z.mv U)<|Q.on (Z.not U)<|Q.on (Z.mv U)<|S.tT 114 U<|Q.on (Z.mv U)<|Q.on (Z.bi U U U)<|Q.on (Z.pick U U)<|Q.on (Z.pick U U)<|Q.pk U U<|Q.as U<|Q.nt<|UW.ret<|S.bH (λ_=>ak U U)<|?_
    rfl
end Go.Proofs.YtonpfomjoiaacaaGreatDoor
end
