/- A part of the proof. -/
import Derived.Test.YtonpfomjoiaacaaGreatDoorMw41
set_option maxRecDepth 100000
set_option maxHeartbeats 4000000
set_option linter.unusedSectionVars false
set_option linter.unusedVariables false
set_option linter.unusedSimpArgs false
section
namespace Go.Proofs.YtonpfomjoiaacaaGreatDoor
open Go Go.iG Go.RowKit
theorem Xh:(List.range 128).all (λc:Nat=>decide (0<=kW (c:Int))==decide (97<=c/\c<=122\/65<=c/\c<=90\/48<=c/\c<=57\/c=45\/c=95))=true:=by kernel_rfl
theorem Xi{c:Int}(h0:0<=c)(h1:c<128):0<=kW c↔(97<=c/\c<=122\/65<=c/\c<=90\/48<=c/\c<=57\/c=45\/c=95):=by
 have:=List.all_eq_true.1 Xh c.toNat (List.mem_range.2 (by omega))
 rw[beq_iff_eq,decide_eq_decide,Int.toNat_of_nonneg h0] at this
 rw[this]
 omega
def BM(s:ByteArray)(i:Nat)(c:Int):ByteArray:=s.extract 0 i++aN c++s.extract (i+1) s.size
theorem Xj{s:ByteArray}{i:Nat}{c:Int}(hs:s.size=44)(hi:i<44)(hc:0<=c/\c<256):(BM s i c).size=44/\eO (BM s i c) (i:Int)=c/\∀j:Nat,j<44->j≠i->eO (BM s i c) (j:Int)=eO s (j:Int):=by
 have h1:(s.extract 0 i).size=i:=by simp;omega
 have h2:(s.extract (i+1) s.size).size=43-i:=by simp;omega
 have h12:(s.extract 0 i++aN c).size=i+1:=by rw[bf,h1];rfl
 have hb:∀(a b j:Nat),a+j<b->b<=s.size->eO (s.extract a b) (j:Int)=eO s ((a+j:Nat):Int):=λa b j h1 h2=>by
  rw[iL _ j (by simp;omega),iL s (a+j) (by omega)]
  simp
 refine⟨by unfold BM;rw[bf,h12,h2];omega,?_,λj hj hne=>?_⟩
 ·unfold BM
  rw[Jv _ _ i (by omega)]
  have:=Jw (s.extract 0 i) (aN c) 0 (by rw[aU];decide)
  rw[h1,Nat.add_zero] at this
  rw[this]
  exact tZ hc
 ·unfold BM
  by_cases hlt:j<i
  ·rw[Jv _ _ j (by omega),Jv _ _ j (by omega),hb 0 i j (by omega) (by omega),Nat.zero_add]
  ·have:=Jw (s.extract 0 i++aN c) (s.extract (i+1) s.size) (j-(i+1)) (by omega)
   rw[h12,show i+1+(j-(i+1))=j by omega] at this
   rw[this,hb (i+1) s.size (j-(i+1)) (by omega) (by omega),show i+1+(j-(i+1))=j by omega]
theorem Rx(k at_ v:Int)(bL:Bool)(hk0:0<=k)(hk1:k<=255)(ha0:0<=at_)(ha1:at_<=255)(hv0:0<=v)(hv1:v<=255)(H:Hp)(hG:fA H):au Tryz.prog 7 [.v (.int .u8 k),.v (.int .u8 at_),.v (.int .u8 v),.v (.bool bL)] H (bB H (.v (.bool true))):=by
 have fk:=λH=>yD k at_ ⟨hk0,by omega⟩ ⟨ha0,by omega⟩ H
 have hs44:=l9 k at_
 obtain⟨i,hi⟩:∃i:Nat,at_.tmod 44=(i:Int):=⟨_,(Int.toNat_of_nonneg (Int.tmod_nonneg 44 ha0)).symm⟩
 have hi44:i<44:=by have:=Int.tmod_lt_of_pos at_ (by decide:(0:Int)<44);omega
 have hc0:=Int.tmod_nonneg 128 hv0
 have hc1:=Int.tmod_lt_of_pos v (by decide:(0:Int)<128)
 generalize hcv:v.tmod 128=c at*
 obtain⟨t1,t2,t3⟩:=Xj hs44 hi44 (c:=c) ⟨hc0,by omega⟩
 obtain⟨f1,f2⟩:=OB ⟨hk0,by omega⟩ ⟨ha0,by omega⟩ hi44 t1 t2 t3
 have hasc:jc (BM (fq k at_) i c)=true:=(pY _).2 λj hj=>by
  by_cases hji:j=i
  ·subst hji;rw[t2];omega
  ·rw[t3 j (by omega) hji]
   exact(pY _).1 (qV ⟨hk0,by omega⟩ ⟨ha0,by omega⟩) j (by rw[hs44];omega)
 have hsg:=Xi hc0 hc1
 have hx1:((fq k at_).extract 0 i).size=i:=by simp;omega
 have hx2:((fq k at_).extract (i+1) (fq k at_).size).size=43-i:=by simp;omega
 have hx3:=aU c
 have htd:BM (fq k at_) i c=(fq k at_).extract 0 i++aN c++(fq k at_).extract (i+1) (fq k at_).size:=rfl
 clear t2 t3
 generalize BM (fq k at_) i c=t at*
 generalize fq k at_=s at*
 -- what is read of what is made
 have hrd:∀p:List ByteArray×List ByteArray,p=([],[t])\/p=([t],[])->D9 (bV Ag ⟨#[]⟩ false p.1 p.2 0 0)/\ma (bV Ag ⟨#[]⟩ false p.1 p.2 0 0)=jB t:=λp hp=>by
  have hone:[t].length<=24/\∀s∈[t],s.size<=44/\jc s=true:=⟨by simp,λs h=>by rw[List.mem_singleton.1 h];exact⟨by omega,hasc⟩⟩
  have hnil:([]:List ByteArray).length<=24/\∀s∈([]:List ByteArray),s.size<=44/\jc s=true:=⟨by simp,(λs h=>by cases h)⟩
  rcases hp with rfl|rfl
  ·refine⟨nU hnil hone ⟨by decide,by decide⟩ ⟨by decide,by decide⟩,?_⟩
   rw[lW,Dc]
   simp[show oP Ag=true by kernel_rfl,show dI []=true by kernel_rfl]
  ·refine⟨nU hone hnil ⟨by decide,by decide⟩ ⟨by decide,by decide⟩,?_⟩
   rw[lW,Dc]
   simp[show oP Ag=true by kernel_rfl,show dI []=true by kernel_rfl]
 have mk:∀p:List ByteArray×List ByteArray,p=([],[t])\/p=([t],[])->∀H,fA H->au Tryz.prog 24 [.agg (gZ (bV Ag ⟨#[]⟩ false p.1 p.2 0 0))] H (bB H (.agg (aC (aL (bV Ag ⟨#[]⟩ false p.1 p.2 0 0))))):=λp hp H h=>mg _ (hrd p hp).1.toSm H h
 have rd:∀p:List ByteArray×List ByteArray,p=([],[t])\/p=([t],[])->∃y:EV,∀H,fA H->au Tryz.prog 15 [.agg (aC (aL (bV Ag ⟨#[]⟩ false p.1 p.2 0 0)))] H (bB H (.kX [.agg (gZ y),.v (.int .u16 (if jB t=true then 0 else 15))])):=λp hp=>by
  obtain⟨h1,h2⟩:=hrd p hp
  refine⟨(ic (aL (bV Ag ⟨#[]⟩ false p.1 p.2 0 0))).1,λH h=>?_⟩
  have h3:=iO _ (pG h1.make (fD _) h1).rw H h
  have h4:(ic (aL (bV Ag ⟨#[]⟩ false p.1 p.2 0 0))).2=if jB t=true then 0 else 15:=by
   rw[qZ h1,h2]
   split<;>rfl
  rwa [h4] at h3
 clear hrd hasc
 refine aF (n:=119) (H0:=H) (I:=[]) Tryz.func7 (by kernel_rfl) U (by rw[Tryz.ntmps7];rfl) .nil<|?_
 focus
  refine Q.rg<|Q.as U<|Q.nt<|Q.rg<|Q.mv U<|Q.mv U<|S.qu (Z.call U U (λH=>fk H))<|Q.as U<|Q.nt<|Q.rg<|Q.mv U<|S.qu (Z.cv Tryz.underlying3 U (IntWalk.i64_in _ (by omega)) (by rw[Tryz.underlying5];rfl))<|?_
  refine Q.mv U<|S.qu (Z.eq (u':=.v (.int .i64 44)) (Z.wm Tryz.underlying9 U) (by rw[hs44];rfl))<|?_
  refine S.qu (Z.eq (u':=.v (.int .i64 (i:Int))) (Z.bi U U U) (congrArg (λx=>AV.v (.int .i64 x)) hi))<|Q.as U<|Q.nt<|S.sq<|?_
  refine' UW.bG (by kernel_rfl) [0,0,3,0,8,24,56,127,0,0,512,1792,4095,8191] [some 26,some 27,some 28,some 29,some 30,some 31,some 32,some 33,some 34,some 35,some 36,some 37,some 38,some 11] [some (26,_),some (27,_),some (28,_),some (29,_),some (30,_),some (31,_),some (32,_),some (33,_),some (34,_),some (35,_),some (36,_),some (37,_),some (38,_),some (11,_)] [] [] U (by decide) (by decide) (M.free (by decide) U U ?uV (M.free (by decide) U U ?qF (M.free (by decide) U U ?qG (M.free (by decide) U U ?vJ (M.free (by decide) U U ?Ac (M.free (by decide) U U ?vK (M.free (by decide) U U ?vL (M.free (by decide) U U ?Ad (M.free (by decide) U U ?vM (M.free (by decide) U U ?vN (M.free (by decide) U U ?vO (M.free (by decide) U U ?Mt (M.free (by decide) U U ?BJ (M.free (by decide) U U ?BK M.nil)))))))))))))) ?Gi
  case uV=>(intro _;exact Z.mv rfl)
  case qF=>(intro _;exact Z.mv rfl)
  case qG=>(intro _;exact Z.slt Tryz.underlying9 rfl (.hi rfl) (by omega) (by omega))
  case vJ=>(intro _;exact Z.mv rfl)
  case Ac=>(intro _;exact Z.eq (u':=.v (.int .u8 c)) (Z.bi rfl rfl rfl) (by rw[hcv]))
  case vK=>(intro _;exact Z.bl je rfl rfl (bz rfl))
  case vL=>(intro _;exact Z.b2s (s:=aN c) Tryz.underlying22 Tryz.underlying5 Tryz.underlying9 (congrArg some (IV _ ⟨by omega,by omega⟩)))
  case Ad=>(intro _;exact Z.cat rfl rfl (by omega))
  case vM=>(intro _;exact Z.mv rfl)
  case vN=>(intro _;exact Z.mv rfl)
  case vO=>(intro _;exact Z.add (r:=((i+1:Nat):Int)) rfl rfl (IntWalk.i64_in _ (by omega)))
  case Mt=>(intro _;exact Z.slt Tryz.underlying9 rfl (.lo rfl) (by omega) (by omega))
  case BJ=>(intro _;exact Z.eq (u':=.v (.string t)) (Z.cat rfl rfl (by rw[bf];omega)) (by rw[htd]))
  case BK=>(intro _;exact Z.as rfl)
  refine CH.nil<|?_
  simp only[app,bS]
  refine UQ.then<|Q.rg<|Q.mv U<|S.qu (Z.bl dQ U U (bz U))<|Q.as U<|Q.nt<|Q.rg<|S.qu (Z.eq (u':=.agg (aC lN)) (Z.bd [0] gU U U U U U U) U)<|S.qu (Z.eq (u':=.agg (gZ (bV Ag ⟨#[]⟩ false [] [] 0 0))) (Z.bd [1,4,5,10] wh U U U U U U) U)<|S.dd<|D.al z28 U U U λUI=>S.s<|D.st 0 di U U U U U U U U λ_=>Q.nt<|?_
  refine S.E5 (λp:List ByteArray×List ByteArray=>[(13,.ptr UI 0),(10,.v (.int .i64 (i:Int))),(9,.v (.string s)),(2,.v (.int .u8 v))]) (λp=>[(UI,.box 28 (gZ (bV Ag ⟨#[]⟩ false p.1 p.2 0 0)))]) (λp=>p=([],[t])\/p=([t],[])) ?_ (λp hp=>?_)
  refine Q.rg<|Q.mv U<|Q.nt<|?_
  refine S.cB U (λhc43=>?_) (λhc43=>?_)
  refine S.rg<|Q.mv U<|Q.fa o5 U<|S.s<|D.st 0 dB U U U U U U U U λ_=>US.nil<|?_
  refine S.iD ([],[t]) ⟨rfl,rfl,rfl,rfl,trivial⟩ (.refl _) (.inl U)
  refine S.rg<|Q.mv U<|Q.fa oH U<|S.s<|D.st 0 dB U U U U U U U U λ_=>US.nil<|?_
  refine S.iD ([t],[]) ⟨rfl,rfl,rfl,rfl,trivial⟩ (.refl _) (.inr U)
  (have mk2:=mk p hp;obtain⟨y,rd2⟩:=rd p hp;obtain⟨yi,yt,yk,ys,yu,yr,yp,ya,yd,ym,yb⟩:=y;obtain⟨b0,b1,b2,b3,b4⟩:=yb;refine S.sq ?_)
  refine S.rg<|S.qu (Z.bW 0 di U U U)<|S.qu (Z.bK U U (λ_ hS=>mk2 _ (hG.mono hS)))<|S.qu (Z.bK U U (λ_ hS=>rd2 _ (hG.mono hS)))<|Q.mv U<|S.qu (Z.ex U U)<|S.qu (Z.ex U U)<|S.dd<|D.al z28 U U U λMx=>S.s<|D.st 0 di U U U U U U U U λ_=>Q.as U<|Q.nt<|Q.rg<|Q.mv U<|S.qu (Z.eq (u':=.v (.int .u8 c)) (Z.bi U U U) (by rw[hcv]))<|?_
  refine Q.as U<|Q.nt<|?_
  refine S.E5 (λx:Bool=>[(17,.v (.bool x)),(16,.v (.int .u8 c)),(15,.v (.int .u16 (if jB t=true then 0 else 15))),(10,.v (.int .i64 (i:Int))),(9,.v (.string s))]) (λ_=>[]) (λx=>x=decide (0<=kW c)) ?_ (λx hx=>?_)
  refine S.rg<|Q.mv U<|Q.bi U U U<|Q.mv U<|?_
  refine S.tD 58 (λhc58=>?_) (λhc58=>?_)
  refine Q.on (Z.mv U)<|Q.on (Z.bi U U U)<|Q.pk U U<|Q.mv U<|?_
  refine S.tD 62 (λhc62=>?_) (λhc62=>?_)
  refine Q.of<|Q.of<|Q.of<|Q.ou<|Q.ou<|Q.of<|Q.pk U U<|Q.mv U<|Q.of<|Q.of<|Q.of<|Q.ou<|Q.ou<|Q.of<|Q.pk U U<|Q.mv U<|Q.of<|Q.of<|Q.pk U U<|Q.mv U<|Q.of<|Q.of<|Q.pk U U<|Q.as U<|US.nil<|?_
  refine S.iD _ ⟨rfl,rfl,rfl,rfl,rfl,trivial⟩ (List.nil_sublist _) (Eq.symm (decide_eq_true (hsg.2 (by omega))))
  refine Q.on (Z.mv U)<|Q.on (Z.bi U U U)<|Q.on (Z.mv U)<|?_
  refine S.tD 65 (λFD=>?_) (λFD=>?_)
  rotate_left
  omega
  rotate_right
  refine Q.on (Z.mv U)<|Q.on (Z.bi U U U)<|Q.on (Z.pick U U)<|Q.pk U U<|Q.mv U<|?_
  refine S.tD 70 (λXg=>?_) (λXg=>?_)
  omega
  refine Q.on (Z.mv U)<|Q.on (Z.bi U U U)<|Q.on (Z.mv U)<|?_
  refine S.tD 73 (λRm=>?_) (λRm=>?_)
  rotate_left
  omega
  rotate_right
  refine Q.on (Z.mv U)<|Q.on (Z.bi U U U)<|Q.on (Z.pick U U)<|Q.pk U U<|Q.mv U<|?_
  refine S.tD 78 (λXk=>?_) (λXk=>?_)
  omega
  refine Q.on (Z.mv U)<|Q.on (Z.bi U U U)<|Q.pk U U<|Q.mv U<|?_
  refine S.tE 82 (λvQ=>?_) (λvQ=>?_)
  omega
  refine Q.on (Z.mv U)<|Q.on (Z.bi U U U)<|Q.pk U U<|Q.as U<|US.nil<|?_
  refine S.iD _ ⟨rfl,rfl,rfl,rfl,rfl,trivial⟩ (List.nil_sublist _) (Bool.eq_iff_iff.2 ⟨λh=>decide_eq_true (hsg.2 (by have:=eq_of_beq h;omega)),λh=>beq_iff_eq.2 (by have:=hsg.1 (of_decide_eq_true h);omega)⟩)
  refine Q.of<|Q.of<|Q.pk U U<|Q.mv U<|Q.on (Z.mv U)<|Q.on (Z.bi U U U)<|Q.on (Z.mv U)<|?_
  refine S.tD 65 (λFD=>?_) (λFD=>?_)
  refine Q.on (Z.mv U)<|Q.on (Z.bi U U U)<|Q.on (Z.pick U U)<|Q.pk U U<|Q.mv U<|?_
  refine S.tD 70 (λXg=>?_) (λXg=>?_)
  refine Q.of<|Q.of<|Q.of<|Q.ou<|Q.ou<|Q.of<|Q.pk U U<|Q.mv U<|Q.of<|Q.of<|Q.pk U U<|Q.mv U<|Q.of<|Q.of<|Q.pk U U<|Q.as U<|US.nil<|?_
  refine S.iD _ ⟨rfl,rfl,rfl,rfl,rfl,trivial⟩ (List.nil_sublist _) (Eq.symm (decide_eq_true (hsg.2 (by omega))))
  refine Q.on (Z.mv U)<|Q.on (Z.bi U U U)<|Q.on (Z.mv U)<|?_
  refine S.tD 73 (λRm=>?_) (λRm=>?_)
  rotate_left
  omega
  rotate_right
  refine Q.on (Z.mv U)<|Q.on (Z.bi U U U)<|Q.on (Z.pick U U)<|Q.pk U U<|Q.mv U<|?_
  refine S.tD 78 (λXk=>?_) (λXk=>?_)
  omega
  refine Q.on (Z.mv U)<|Q.on (Z.bi U U U)<|Q.pk U U<|Q.mv U<|?_
  refine S.tE 82 (λvQ=>?_) (λvQ=>?_)
  omega
  refine Q.on (Z.mv U)<|Q.on (Z.bi U U U)<|Q.pk U U<|Q.as U<|US.nil<|?_
  refine S.iD _ ⟨rfl,rfl,rfl,rfl,rfl,trivial⟩ (List.nil_sublist _) (Bool.eq_iff_iff.2 ⟨λh=>decide_eq_true (hsg.2 (by have:=eq_of_beq h;omega)),λh=>beq_iff_eq.2 (by have:=hsg.1 (of_decide_eq_true h);omega)⟩)
  refine Q.of<|Q.of<|Q.on (Z.pick U U)<|Q.pk U U<|Q.mv U<|Q.on (Z.mv U)<|Q.on (Z.bi U U U)<|Q.on (Z.mv U)<|?_
  refine S.tD 73 (λRm=>?_) (λRm=>?_)
  refine Q.on (Z.mv U)<|Q.on (Z.bi U U U)<|Q.on (Z.pick U U)<|Q.pk U U<|Q.mv U<|?_
  refine S.tD 78 (λXk=>?_) (λXk=>?_)
  refine Q.of<|Q.of<|Q.pk U U<|Q.mv U<|Q.of<|Q.of<|Q.pk U U<|Q.as U<|US.nil<|?_
  refine S.iD _ ⟨rfl,rfl,rfl,rfl,rfl,trivial⟩ (List.nil_sublist _) (Eq.symm (decide_eq_true (hsg.2 (by omega))))
  refine Q.on (Z.mv U)<|Q.on (Z.bi U U U)<|Q.pk U U<|Q.mv U<|?_
  refine S.tE 82 (λvQ=>?_) (λvQ=>?_)
  omega
  refine Q.on (Z.mv U)<|Q.on (Z.bi U U U)<|Q.pk U U<|Q.as U<|US.nil<|?_
  refine S.iD _ ⟨rfl,rfl,rfl,rfl,rfl,trivial⟩ (List.nil_sublist _) (Bool.eq_iff_iff.2 ⟨λh=>decide_eq_true (hsg.2 (by have:=eq_of_beq h;omega)),λh=>beq_iff_eq.2 (by have:=hsg.1 (of_decide_eq_true h);omega)⟩)
  refine Q.of<|Q.of<|Q.on (Z.pick U U)<|Q.pk U U<|Q.mv U<|Q.on (Z.mv U)<|Q.on (Z.bi U U U)<|Q.pk U U<|Q.mv U<|?_
  refine S.tE 82 (λvQ=>?_) (λvQ=>?_)
  refine Q.of<|Q.of<|Q.pk U U<|Q.as U<|US.nil<|?_
  refine S.iD _ ⟨rfl,rfl,rfl,rfl,rfl,trivial⟩ (List.nil_sublist _) (Eq.symm (decide_eq_true (hsg.2 (by omega))))
  refine Q.on (Z.mv U)<|Q.on (Z.bi U U U)<|Q.pk U U<|Q.as U<|US.nil<|?_
  refine S.iD _ ⟨rfl,rfl,rfl,rfl,rfl,trivial⟩ (List.nil_sublist _) (Bool.eq_iff_iff.2 ⟨λh=>decide_eq_true (hsg.2 (by have:=eq_of_beq h;omega)),λh=>beq_iff_eq.2 (by have:=hsg.1 (of_decide_eq_true h);omega)⟩)
 subst hx
 by_cases hi0:i=0
 ·rw[f1 hi0]
  subst hi0
  by_cases XZ:c=36
  ·have hk1:=jP XZ
   rw[hk1,if_pos U]
   refine S.sq<|Q.rg<|Q.mv U<|Q.bi U U U<|Q.nt<|S.cT U (jP (by omega))<|Q.rg<|S.qu (Z.bK U U (λ_ hS=>ig _ (hG.mono hS)))<|Q.mv U<|Q.on (Z.mv U)<|Q.on (Z.bi U U U)<|Q.on (Z.mv U)<|Q.on (Z.bi U U U)<|Q.on (Z.beq Tryz.underlying4 U U)<|Q.pk U U<|Q.as U<|Q.nt<|UW.ret<|UQ.ax<|S.bH (λ_=>ak U U)<|?_
   focus ((rw[hk1];rfl);done)
  ·have hk1:=gG XZ
   rw[hk1,if_neg (by decide)]
   refine S.sq<|Q.rg<|Q.mv U<|Q.bi U U U<|Q.nt<|S.cT U (jP (by omega))<|Q.rg<|S.qu (Z.bK U U (λ_ hS=>ig _ (hG.mono hS)))<|Q.mv U<|Q.on (Z.mv U)<|Q.on (Z.bi U U U)<|Q.on (Z.mv U)<|Q.on (Z.bi U U U)<|Q.on (Z.beq Tryz.underlying4 U U)<|Q.pk U U<|Q.as U<|Q.nt<|UW.ret<|UQ.ax<|S.bH (λ_=>ak U U)<|?_
   focus ((rw[hk1];rfl);done)
 ·obtain⟨g1,g2⟩:=f2 hi0
  by_cases hsc:0<=kW c
  ·rw[decide_eq_true hsc]
   by_cases h43:i=43
   ·cases jB t with
    |true=>
     rw[if_pos U]
     focus
      refine S.sq<|Q.rg<|Q.mv U<|Q.bi U U U<|Q.nt<|S.cF U (gG (by omega))<|UW.skip<|UQ.then<|Q.rg<|S.qu (Z.bK U U (λ_ hS=>ig _ (hG.mono hS)))<|Q.mv U<|Q.on (Z.mv U)<|Q.on (Z.mv U)<|Q.of<|Q.of<|Q.on (Z.pick U U)<|Q.pk U U<|Q.mv U<|Q.on (Z.mv U)<|Q.on (Z.not U)<|Q.on (Z.mv U)<|S.tF 107 U<|Q.on (Z.mv U)<|Q.on (Z.mv U)<|Q.on (Z.wm Tryz.underlying9 U)<|Q.on (Z.sub U U (IntWalk.i64_in _ (by omega)))<|Q.on (Z.bi U U U)<|Q.on (Z.pick U U)<|Q.on (Z.mv U)<|?_
      refine S.tE 114 (λhc114=>?_) (λhc114=>?_)
      rotate_left
      omega
      refine Q.of<|Q.of<|Q.on (Z.pick U U)<|Q.pk U U<|Q.as U<|Q.nt<|UW.ret<|S.bH (λ_=>ak U U)<|?_
      rfl
    |false=>
     rw[if_neg (by decide)]
     focus
      refine S.sq<|Q.rg<|Q.mv U<|Q.bi U U U<|Q.nt<|S.cF U (gG (by omega))<|UW.skip<|UQ.then<|Q.rg<|S.qu (Z.bK U U (λ_ hS=>ig _ (hG.mono hS)))<|Q.mv U<|Q.on (Z.mv U)<|Q.on (Z.mv U)<|Q.of<|Q.of<|Q.on (Z.pick U U)<|Q.pk U U<|Q.mv U<|Q.on (Z.mv U)<|Q.on (Z.not U)<|Q.on (Z.mv U)<|S.tF 107 U<|Q.on (Z.mv U)<|Q.on (Z.mv U)<|Q.on (Z.wm Tryz.underlying9 U)<|Q.on (Z.sub U U (IntWalk.i64_in _ (by omega)))<|Q.on (Z.bi U U U)<|Q.on (Z.pick U U)<|Q.on (Z.mv U)<|?_
      refine S.tE 114 (λhc114=>?_) (λhc114=>?_)
      rotate_left
      omega
      refine Q.of<|Q.of<|Q.on (Z.pick U U)<|Q.pk U U<|Q.as U<|Q.nt<|UW.ret<|S.bH (λ_=>ak U U)<|?_
      rfl
   ·rw[g2 hsc h43,if_pos U]
    refine S.sq<|Q.rg<|Q.mv U<|Q.bi U U U<|Q.nt<|S.cF U (gG (by omega))<|UW.skip<|UQ.then<|Q.rg<|S.qu (Z.bK U U (λ_ hS=>ig _ (hG.mono hS)))<|Q.mv U<|Q.on (Z.mv U)<|Q.on (Z.mv U)<|Q.of<|Q.of<|Q.on (Z.pick U U)<|Q.pk U U<|Q.mv U<|Q.on (Z.mv U)<|Q.on (Z.not U)<|Q.on (Z.mv U)<|S.tF 107 U<|Q.on (Z.mv U)<|Q.on (Z.mv U)<|Q.on (Z.wm Tryz.underlying9 U)<|Q.on (Z.sub U U (IntWalk.i64_in _ (by omega)))<|Q.on (Z.bi U U U)<|Q.on (Z.pick U U)<|Q.on (Z.mv U)<|?_
    refine S.tE 114 (λhc114=>?_) (λhc114=>?_)
    omega
    refine Q.on (Z.mv U)<|Q.on (Z.bi U U U)<|Q.on (Z.pick U U)<|Q.pk U U<|Q.as U<|Q.nt<|UW.ret<|S.bH (λ_=>ak U U)<|?_
    rfl
  ·rw[decide_eq_false hsc,g1 (by omega),if_neg (by decide)]
   focus
    refine S.sq<|Q.rg<|Q.mv U<|Q.bi U U U<|Q.nt<|S.cF U (gG (by omega))<|UW.skip<|UQ.then<|Q.rg<|S.qu (Z.bK U U (λ_ hS=>ig _ (hG.mono hS)))<|Q.mv U<|Q.on (Z.mv U)<|Q.on (Z.mv U)<|Q.on (Z.mv U)<|Q.on (Z.bi U U U)<|Q.on (Z.pick U U)<|Q.pk U U<|Q.mv U<|?_
    refine S.tE 104 (λhc104=>?_) (λhc104=>?_)
    rotate_left
    omega
    refine Q.on (Z.mv U)<|Q.on (Z.not U)<|Q.on (Z.mv U)<|S.tT 107 U<|Q.of<|Q.of<|Q.of<|Q.of<|Q.of<|Q.on (Z.pick U U)<|Q.on (Z.mv U)<|Q.of<|Q.of<|Q.on (Z.pick U U)<|Q.pk U U<|Q.as U<|Q.nt<|UW.ret<|S.bH (λ_=>ak U U)<|?_
    rfl
end Go.Proofs.YtonpfomjoiaacaaGreatDoor
end
