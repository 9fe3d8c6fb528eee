/- A part of the proof. -/
import Derived.Test.YtonpfomjoiaacaaGreatDoorMz50
set_option maxRecDepth 100000
set_option maxHeartbeats 4000000
set_option linter.unusedSectionVars false
set_option linter.unusedVariables false
set_option linter.unusedSimpArgs false
section
namespace Go.Proofs.YtonpfomjoiaacaaGreatDoor
open Go Go.fT Go.RowKit
theorem Hy(a b:Int)(ha:0<=a/\a<256)(hb:0<=b/\b<256)(H:Hp):au Tryz.prog 23 [.v (.int .u8 a),.v (.int .u8 b)] H (bz H (.v (.string (jP a b)))):=by
 have h0:(bf (List.replicate 32 0)).set 0 [.v (.int .u8 a)]=bf (a::List.replicate 31 0):=by rw[zw];rfl
 have h1:(bf (a::List.replicate 31 0)).set 31 [.v (.int .u8 b)]=bf (iT a b):=by rw[zw];rfl
 have hz0:=kC (List.replicate 32 (0:Int))
 have hl0:(bf (List.replicate 32 (0:Int))).length=32:=by rw[bY];rfl
 have hz1:=kC (a::List.replicate 31 (0:Int))
 have hl1:(bf (a::List.replicate 31 (0:Int))).length=32:=by rw[bY];rfl
 have hl2:(bf (iT a b)).length=32:=by rw[bY,rE]
 have ht:=λH=>u7 (iT a b) (by rw[rE];decide) (vE ha hb) H
 have hsz:=wF a b
 unfold jP at*
 have h36:(⟨#[36]⟩:ByteArray).size=1:=rfl
 have hts:(dB (iT a b)).size<=1000:=by rw[aZ] at hsz;omega
 generalize dB (iT a b)=t at*
 refine aF (n:=16) (H0:=H) (I:=[]) Tryz.func23 (by kernel_rfl) U (by rw[Tryz.ntmps23];rfl) .nil ?_
 refine S.sq (S.rg ?_)
 refine S.qu (Z.as U) ?_
 refine US.nil (UQ.then (S.sq (S.rg ?_)))
 refine S.dd (D.mkz 32 U U (by omega) (λp6=>?_))
 refine S.qu (Z.as U) ?_
 refine US.nil (UQ.then (S.sq (S.rg ?_)))
 refine S.qu (Z.mv U) ?_
 refine S.qu (Z.mv U) ?_
 refine S.qu (Z.io bR U U (by omega) (by omega)) ?_
 refine S.s (D.sre 0 (m:=0) nM U U U (by omega) U U U U hz0 h0 (λ_=>?_))
 refine US.nil (UQ.then (S.sq (S.rg ?_)))
 refine S.qu (Z.mv U) ?_
 refine S.qu (Z.mv U) ?_
 refine S.qu (Z.io bR U U (by omega) (by omega)) ?_
 refine S.s (D.sre 0 (m:=31) nM U U U (by omega) U U U U hz1 h1 (λ_=>?_))
 refine US.nil (UQ.then (S.sq (S.rg ?_)))
 refine S.qu (Z.mv U) ?_
 refine US.gG 13 0 (rs:=bf (iT a b)) U U (by omega) (by rw[List.drop_zero];exact List.take_of_length_le (by omega)) ?_
 refine S.qu (Z.call U U (λH=>ht H)) ?_
 refine S.qu (Z.cat U U (by omega)) ?_
 refine S.qu (Z.as U) ?_
 refine US.nil (UQ.then (UW.ret ?_))
 refine S.bK (λ_=>ak U U) ?_
 rfl
def Vg(f:Nat->Int)(k:Int)(m:Nat):List ByteArray:=(List.range m).map λi=>jP (f i) k
theorem Y6(f:Nat->Int)(k:Int)(m:Nat):(Vg f k m).length=m:=by unfold Vg;simp
theorem zV(f:Nat->Int)(k:Int)(m:Nat):((Vg f k m).map encS).length=m:=by rw[List.length_map,Y6]
theorem M5(f:Nat->Int)(k:Int)(j:Nat):((Vg f k j).map encS).take j++[encS (jP (f j) k)]=(Vg f k (j+1)).map encS:=by
 rw[List.take_of_length_le (by rw[zV];exact Nat.le_refl _)]
 unfold Vg
 rw[List.range_succ,List.map_append,List.map_append];rfl
theorem CJ(f:Nat->Int)(k:Int)(j:Nat):(((Vg f k j).map encS).drop 0).take j=(Vg f k j).map encS:=by
 rw[List.drop_zero,List.take_of_length_le (by rw[zV];exact Nat.le_refl _)]
theorem FY(c:List Int)(hc:zh c)(k:Int)(hk0:0<=k)(hk1:k<256)(H:Hp):au Tryz.prog 13 [BD c,.v (.int .u8 k)] H (bz H (.agg (mZ (dS c k)))):=by
 have hn:=mX hc 0
 have hkind:=λH=>RO k hk0 hk1 H
 have hbody:=λH=>RP c hc k hk0 hk1 H
 have hg1:c.length=0->c.getD 0 0=0:=λh=>by rw[List.eq_nil_of_length_eq_zero h];rfl
 have hg0:0<c.length->(c.map uW)[0]? =some (uW (c.getD 0 0)):=λh=>by rw[List.getElem?_map,List.getElem?_eq_getElem h,getD_at h];rfl
 have wI:(c.map uW).length=c.length:=List.length_map ..
 have hf:∀j:Nat,(j:Int)<256->∀H,au Tryz.prog 23 [.v (.int .u8 (j:Int)),.v (.int .u8 k)] H (bz H (.v (.string (jP (j:Int) k)))):=λj hj H=>Hy _ _ ⟨by omega,hj⟩ ⟨hk0,hk1⟩ H
 have hf2:∀j:Nat,(j:Int)<100->∀H,au Tryz.prog 23 [.v (.int .u8 (100+(j:Int))),.v (.int .u8 k)] H (bz H (.v (.string (jP (100+(j:Int)) k)))):=λj hj H=>Hy _ _ ⟨by omega,by omega⟩ ⟨hk0,hk1⟩ H
 unfold dS ZH ZI
 unfold BD at*
 generalize G6 k=kd at*
 generalize G7 c k=b at*
 generalize c.getD 0 0=n at*
 have m0:=Int.tmod_nonneg 4 hn.1
 have m1:=Int.tmod_lt_of_pos n (by decide:(0:Int)<4)
 have m2:=Int.tmod_nonneg 3 hn.1
 have m3:=Int.tmod_lt_of_pos n (by decide:(0:Int)<3)
 have m4:=Int.tmod_nonneg 5 hn.1
 have m5:=Int.tmod_lt_of_pos n (by decide:(0:Int)<5)
 have m6:0<=n.tdiv 4:=by rw[Int.tdiv_eq_ediv_of_nonneg hn.1];omega
 have m7:=Int.tmod_nonneg 4 m6
 have m8:=Int.tmod_lt_of_pos (n.tdiv 4) (by decide:(0:Int)<4)
 obtain⟨p,hp⟩:∃p:Nat,n.tmod 4=(p:Int):=⟨_,(Int.toNat_of_nonneg m0).symm⟩
 obtain⟨q,hq⟩:∃q:Nat,(n.tdiv 4).tmod 4=(q:Int):=⟨_,(Int.toNat_of_nonneg m7).symm⟩
 have hwq:IntKind.i64.wrap (n.tdiv 4)=n.tdiv 4:=IntWalk.i64_in _ (by rw[Int.tdiv_eq_ediv_of_nonneg hn.1];omega)
 rw[hp,hq]
 simp only[Int.toNat_natCast]
 have hkd:=λh:n.tmod 5<3=>oD Ke (n.tmod 5).toNat (by show _<3;omega)
 have hsd:=oD nW (n.tmod 3).toNat (by show _<3;omega)
 generalize nW.getD (n.tmod 3).toNat ⟨#[]⟩=sd at*
 obtain⟨b0,b1,b2,b3,b4⟩:=b
 refine aF (n:=74) (H0:=H) (I:=[]) Tryz.func13 (by kernel_rfl) U (by rw[Tryz.ntmps13];rfl) .nil ?_
 refine S.sq (S.rg ?_)
 refine S.dd (D.al z28 U U U (λp4=>?_))
 refine US.nil (UQ.then (S.sq (S.rg ?_)))
 refine S.qu (Z.as U) ?_
 refine US.nil (UQ.then ?_)
 refine S.Vz (λq:Int=>[(5,.v (.int .i64 q)),(4,.ptr p4 0),(0,.sl (c.map uW)),(1,.v (.int .u8 k))]) (λ_=>[(p4,.box 28 (mZ zeroE))]) (λx=>x=n) ?_ (λx hx=>?_)
 refine S.sq (S.rg ?_)
 refine S.qu (Z.mv U) ?_
 refine S.qu (Z.fG bR U) ?_
 refine S.qu (Z.bi U U U) ?_
 refine US.nil (UQ.then ?_)
 refine S.cD U (λuu=>?_) (λuu=>?_)
 refine S.rg ?_
 refine S.qu (Z.mv U) ?_
 refine S.qu (Z.ia bR U U (by omega) (hg0 (by omega)) (by rfl)) ?_
 refine S.qu (Z.fE nM U) ?_
 refine S.qu (Z.cv Tryz.underlying3 U (IntWalk.i64_in _ (by omega)) (by rw[Tryz.underlying5];rfl)) ?_
 refine S.qu (Z.as U) ?_
 refine US.nil ?_
 refine S.qQ _ ⟨rfl,rfl,rfl,rfl,trivial⟩ (.refl _) U
 refine UW.skip ?_
 refine S.qQ _ ⟨rfl,rfl,rfl,rfl,trivial⟩ (.refl _) (hg1 (by omega)).symm
 (have hx2:=hx.symm;subst hx2;refine S.sq ?_)
 refine' UW.Gl (by kernel_rfl) [0] [0,1,0,0,8,28,60,0,0,256,768,0,0,6147,16383,0,65535] [some 16,some 17,some 18,some 19,some 20,some 21,some 22,some 23,some 24,some 25,some 26,some 27,some 28,some 29,some 30,none,none] [some (16,_),some (17,_),some (18,_),some (19,_),some (20,_),some (21,_),some (22,_),some (23,_),some (24,_),some (25,_),some (26,_),some (27,_),some (28,_),some (29,_),some (30,_),none,none] [15,16] [] U (by decide) (by decide) (M.free (by decide) U U ?iX (M.free (by decide) U U ?iY (M.free (by decide) U U ?iZ (M.free (by decide) U U ?ja (M.free (by decide) U U ?jb (M.free (by decide) U U ?jc (M.kept (by decide) U U ?jd (M.free (by decide) U U ?kH (M.free (by decide) U U ?o6 (M.free (by decide) U U ?sI (M.free (by decide) U U ?nS (M.free (by decide) U U ?nT (M.free (by decide) U U ?y7 (M.free (by decide) U U ?y8 (M.free (by decide) U U ?y9 (M.skip (M.skip M.nil))))))))))))))))) ?sj
 case iX=>(intro _;exact Z.mv rfl)
 case iY=>(intro _;exact Z.call rfl rfl (λH=>hkind H))
 case iZ=>(intro _;exact Z.eq (u':=strs nW) (Z.bl dV rfl rfl (bA rfl)) rfl)
 case ja=>(intro _;exact Z.mv rfl)
 case jb=>(intro _;exact Z.bi rfl rfl rfl)
 case jc=>(intro _;exact Z.ia aY rfl rfl (by omega) hsd (by rfl))
 case jd=>(intro _ hK;exact Z.fE ed rfl)
 case kH=>(intro _;exact Z.mv rfl)
 case o6=>(intro _;exact Z.mv rfl)
 case sI=>(intro _;exact Z.cv Tryz.underlying2 rfl (IntWalk.i64_in _ (by omega)) (by rw[Tryz.underlying5];rfl))
 case nS=>(intro _;exact Z.mul (r:=k*3) rfl rfl (IntWalk.i64_in _ (by omega)))
 case nT=>(intro _;exact Z.mv rfl)
 case y7=>(intro _;exact Z.mv rfl)
 case y8=>(intro _;exact Z.call rfl rfl (λH=>hbody H))
 case y9=>(intro _;exact Z.bdp [1,4,5,8,9,10] Ch rfl rfl rfl rfl rfl)
 refine CH.cons U U (by decide) ?_ (.c 0 U .n)
 refine D.al z28 U U U (λp6=>?_)
 refine CH.df U U ?_ (.c 1 U .n)
 refine D.st 0 gy U U U U U U U U (λ_=>?_)
 refine CH.nil ?_ (.c 1 U .n)
 simp only[app,bV]
 refine UQ.then ?_
 refine UW.qi 0 6 9 (sz:=1) (by decide) U U (λid=>?_)
 refine S.sq (S.sq (S.rg ?_))
 refine S.qu (Z.as U) ?_
 refine US.nil (UQ.then (UW.block ?_))
 refine S.loop (λs:Nat×Nat=>[(7,.v (.int .i64 (s.1:Int))),(6,.ptr p6 0),(5,.v (.int .i64 n)),(4,.ptr p4 0),(1,.v (.int .u8 k))]) (λs=>[(s.2,.row 9 1 ((Vg (λi=>(i:Int)) k s.1).map encS)),(p6,.box 28 [.v (.string ⟨#[]⟩),.v (.string kd),.v (.string ⟨#[]⟩),.v (.bool false),.v (.string sd),.v (.string MO),.own s.2 0 s.1 1,.v (.slice none 0 0),.v (.int .i64 n),.v (.int .i64 (k*3)),.v (.int .i64 b0),.v (.int .i64 b1),.v (.string b2),.sl (b3.map encS),.sl (aW b4)]),(p4,.box 28 (mZ zeroE))]) (λs=>s.1<=p) (λs=>p-s.1) (0,id) (Nat.zero_le _) ⟨rfl,rfl,rfl,rfl,rfl,trivial⟩ (.refl _) ?_
 rintro⟨j,ZZ⟩ hj
 simp only at hj
 simp only
 have hrl:=zV (λi=>(i:Int)) k j
 by_cases hjl:j<p
 ·refine S.sq (S.sq (S.rg ?_))
  refine S.qu (Z.mv U) ?_
  refine S.qu (Z.mv U) ?_
  refine S.qu (Z.eq (u':=.v (.int .i64 (p:Int))) (Z.bi U U U) (by rw[hp])) ?_
  refine S.qu (Z.bi U U U) ?_
  refine US.nil (UQ.then ?_)
  refine S.cT U (decide_eq_true (by omega)) ?_
  refine UW.skip (UQ.then (S.sq (UW.block ?_)))
  refine' UW.bG (by kernel_rfl) [0,1,0,4,0,28,60,127,255,511] [some 37,some 38,some 39,some 40,some 41,some 42,some 43,none,none,none] [some (37,_),some (38,_),some (39,_),some (40,_),some (41,_),some (42,_),some (43,_),none,none,none] [7,8,9] [1] U (by decide) (by decide) (M.free (by decide) U U ?je (M.held (by decide) U U ?jf (M.free (by decide) U U ?jg (M.free (by decide) U U ?jh (M.free (by decide) U U ?ji (M.free (by decide) U U ?jK (M.free (by decide) U U ?mg (M.skip (M.skip (M.skip M.nil)))))))))) ?su
  case je=>(intro _;exact Z.fa vF rfl)
  case jf=>exact Z.di 1 dD rfl rfl rfl
  case jg=>(intro _;exact Z.mv rfl)
  case jh=>(intro _;exact Z.cv Tryz.underlying5 rfl (IntWalk.u8_in _ (by omega)) (by rw[Tryz.underlying3];rfl))
  case ji=>(intro _;exact Z.mv rfl)
  case jK=>(intro _;exact Z.call rfl rfl (λH=>hf j (by omega) H))
  case mg=>(intro _;exact Z.bl dV rfl rfl (bA rfl))
  refine CH.cons U U (by decide) ?_
  refine D.ap 0 dV U U (by omega) U (.sl (j3 U)) (by simp;omega) (M5 _ _ _) (λp44=>?_)
  refine CH.cons U U (by decide) ?_
  refine D.qu (Z.fa vF U) ?_
  refine CH.df U U ?_
  refine D.st 1 dD U U U U U U U U (λ_=>?_)
  refine CH.nil ?_
  simp only[app,bV]
  refine UQ.aB (UQ.then (S.rg ?_))
  refine S.qu (Z.mv U) ?_
  refine S.qu (Z.add (r:=((j+1:Nat):Int)) U U (IntWalk.i64_in _ (by omega))) ?_
  refine S.qu (Z.as U) ?_
  refine US.nil ?_
  refine S.back (j+1,_) ⟨rfl,rfl,rfl,rfl,rfl,trivial⟩ (.refl _) (by omega) (by omega)
 ·have hjp:j=p:=by omega
  subst hjp
  refine S.sq (S.sq (S.rg ?_))
  refine S.qu (Z.mv U) ?_
  refine S.qu (Z.mv U) ?_
  refine S.qu (Z.eq (u':=.v (.int .i64 (j:Int))) (Z.bi U U U) (by rw[hp])) ?_
  refine S.qu (Z.bi U U U) ?_
  refine US.nil (UQ.then ?_)
  refine S.cF U (decide_eq_false (by omega)) ?_
  refine UW.exit (UQ.pass (UQ.pass (UQ.here (UQ.then ?_))))
  refine UW.qi 1 7 9 (sz:=1) (by decide) U U (λjQ=>?_)
  refine S.sq (S.sq (S.rg ?_))
  refine S.qu (Z.as U) ?_
  refine US.nil (UQ.then (UW.block ?_))
  refine S.loop (λs:Nat×Nat=>[(8,.v (.int .i64 (s.1:Int))),(6,.ptr p6 0),(5,.v (.int .i64 n)),(4,.ptr p4 0),(1,.v (.int .u8 k))]) (λs=>[(s.2,.row 9 1 ((Vg (λi=>100+(i:Int)) k s.1).map encS)),(ZZ,.row 9 1 ((Vg (λi=>(i:Int)) k j).map encS)),(p6,.box 28 [.v (.string ⟨#[]⟩),.v (.string kd),.v (.string ⟨#[]⟩),.v (.bool false),.v (.string sd),.v (.string MO),.own ZZ 0 j 1,.own s.2 0 s.1 1,.v (.int .i64 n),.v (.int .i64 (k*3)),.v (.int .i64 b0),.v (.int .i64 b1),.v (.string b2),.sl (b3.map encS),.sl (aW b4)]),(p4,.box 28 (mZ zeroE))]) (λs=>s.1<=q) (λs=>q-s.1) (0,jQ) (Nat.zero_le _) ⟨rfl,rfl,rfl,rfl,rfl,trivial⟩ (.refl _) ?_
  rintro⟨i,id3⟩ hi
  simp only at hi
  simp only
  have hrl2:=zV (λi=>100+(i:Int)) k i
  by_cases hil:i<q
  ·refine S.sq (S.sq (S.rg ?_))
   refine S.qu (Z.mv U) ?_
   refine S.qu (Z.mv U) ?_
   refine S.qu (Z.bi U U U) ?_
   refine S.qu (Z.eq (u':=.v (.int .i64 (q:Int))) (Z.bi U U U) (by rw[hwq,hq])) ?_
   refine S.qu (Z.bi U U U) ?_
   refine US.nil (UQ.then ?_)
   refine S.cT U (decide_eq_true (by omega)) ?_
   refine UW.skip (UQ.then (S.sq (UW.block ?_)))
   refine' UW.bG (by kernel_rfl) [0,1,0,4,12,0,60,124,255,511,1023] [some 53,some 54,some 55,some 56,some 57,some 58,some 59,some 60,none,none,none] [some (53,_),some (54,_),some (55,_),some (56,_),some (57,_),some (58,_),some (59,_),some (60,_),none,none,none] [8,9,10] [1] U (by decide) (by decide) (M.free (by decide) U U ?lZ (M.held (by decide) U U ?l5 (M.free (by decide) U U ?l6 (M.free (by decide) U U ?l7 (M.free (by decide) U U ?o7 (M.free (by decide) U U ?oQ (M.free (by decide) U U ?oU (M.free (by decide) U U ?oV (M.skip (M.skip (M.skip M.nil))))))))))) ?Am
   case lZ=>(intro _;exact Z.fa vG rfl)
   case l5=>exact Z.di 2 dD rfl rfl rfl
   case l6=>(intro _;exact Z.mv rfl)
   case l7=>(intro _;exact Z.add rfl rfl (IntWalk.i64_in _ (by omega)))
   case o7=>(intro _;exact Z.cv Tryz.underlying5 rfl (IntWalk.u8_in _ (by omega)) (by rw[Tryz.underlying3];rfl))
   case oQ=>(intro _;exact Z.mv rfl)
   case oU=>(intro _;exact Z.call rfl rfl (λH=>hf2 i (by omega) H))
   case oV=>(intro _;exact Z.bl dV rfl rfl (bA rfl))
   refine CH.cons U U (by decide) ?_
   refine D.ap 0 dV U U (by omega) U (.sl (j3 U)) (by simp;omega) (M5 _ _ _) (λp61=>?_)
   refine CH.cons U U (by decide) ?_
   refine D.qu (Z.fa vG U) ?_
   refine CH.df U U ?_
   refine D.st 2 dD U U U U U U U U (λ_=>?_)
   refine CH.nil ?_
   simp only[app,bV]
   refine UQ.aB (UQ.then (S.rg ?_))
   refine S.qu (Z.mv U) ?_
   refine S.qu (Z.add (r:=((i+1:Nat):Int)) U U (IntWalk.i64_in _ (by omega))) ?_
   refine S.qu (Z.as U) ?_
   refine US.nil ?_
   refine S.back (i+1,_) ⟨rfl,rfl,rfl,rfl,rfl,trivial⟩ (.refl _) (by omega) (by omega)
  ·have hip:i=q:=by omega
   subst hip
   focus
    refine S.sq (S.sq (S.rg ?_))
    refine S.qu (Z.mv U) ?_
    refine S.qu (Z.mv U) ?_
    refine S.qu (Z.bi U U U) ?_
    refine S.qu (Z.eq (u':=.v (.int .i64 (i:Int))) (Z.bi U U U) (by rw[hwq,hq])) ?_
    refine S.qu (Z.bi U U U) ?_
    refine US.nil (UQ.then ?_)
    refine S.cF U (decide_eq_false (by omega)) ?_
    refine UW.exit (UQ.pass (UQ.pass (UQ.here (UQ.then (S.sq (S.sq (S.rg ?_)))))))
    refine S.qu (Z.mv U) ?_
    refine S.qu (Z.bi U U U) ?_
    refine S.qu (Z.bi U U U) ?_
    refine US.nil (UQ.then ?_)
    refine S.cD U (λNZ=>?_) (λNZ=>?_)
    refine S.sq (S.rg ?_)
    refine S.qu (Z.fa kW U) ?_
    refine S.s (D.st 2 oo U U U U U U U U (λ_=>?_))
    refine US.nil (UQ.then (S.rg ?_))
    refine S.qu (Z.eq (u':=strs Ke) (Z.bl dV U U (bA U)) U) ?_
    refine S.qu (Z.mv U) ?_
    refine S.qu (Z.bi U U U) ?_
    refine S.qu (Z.ia aY U U (by omega) (hkd (by omega)) (by rfl)) ?_
    refine S.qu (Z.fE ed U) ?_
    refine S.qu (Z.fa wZ U) ?_
    refine S.s (D.st 2 ed U U U U U U U U (λ_=>?_))
    refine US.nil (UQ.then (S.sq (S.rg ?_)))
    refine S.qu (Z.dA 2 gy U U U) ?_
    refine US.uH 73 7 0 U U U (by omega) (CJ _ _ _) U ?_
    refine US.uH 73 6 0 U U U (by omega) (CJ _ _ _) U ?_
    refine S.s (D.st 1 gy U U U U U U U U (λ_=>?_))
    refine US.nil (UQ.then (UW.ret ?_))
    refine S.bK (λhd=>aU (k:=1) hd U U U Gc Gd) ?_
    rotate_left
    refine UW.skip (UQ.then (S.sq (S.rg ?_)))
    refine S.qu (Z.dA 2 gy U U U) ?_
    refine US.uH 73 7 0 U U U (by omega) (CJ _ _ _) U ?_
    refine US.uH 73 6 0 U U U (by omega) (CJ _ _ _) U ?_
    refine S.s (D.st 1 gy U U U U U U U U (λ_=>?_))
    refine US.nil (UQ.then (UW.ret ?_))
    refine S.bK (λhd=>aU (k:=1) hd U U U Gc Gd) ?_
    rotate_left
   ·rw[if_pos NZ,decide_eq_true NZ];rfl
   ·rw[if_neg NZ,decide_eq_false NZ];rfl
theorem Vh{e:EV}(h:Sm e)(i:ByteArray):Sm {e with id:=i}:=⟨h.prev,h.dH,h.txt,h.num,h.wt,h.deep,h.fits,h.o,h.few⟩
theorem smr_id{e:EV}(h:YT e)(i:ByteArray):YT {e with id:=i}:=⟨Vh h.toSm i,h.user,h.rm,h.pa,h.aa,h.b5⟩
theorem smr_mk{e:EV}(hb:e.body=Bh)(hp:e.prev.length<=24/\∀s∈e.prev,s.size<=44/\pO s=true)(ha:e.dH.length<=24/\∀s∈e.dH,s.size<=44/\pO s=true)(ht:e.ty.size<=100/\e.key.size<=100)
 (hn:(-9223372036854775808<=e.depth/\e.depth<=9223372036854775807)/\ -9223372036854775808<=e.time/\e.time<=9223372036854775807) (hu:hasB wX e.sender=true) (hr:hasB BP e.room=true):YT e:=by
 have hu':=lJ.1 hu
 have hr':=lJ.1 hr
 have Zq:∀s∈wX,s.size<=100:=by decide
 have hrl:∀s∈BP,s.size<=100:=by decide
 refine⟨⟨⟨hp.1,λs h=>(hp.2 s h).1⟩,⟨ha.1,λs h=>(ha.2 s h).1⟩,⟨ht.1,ht.2,Zq _ hu',hrl _ hr'⟩,hn,?_,?_,?_,?_,?_⟩,hu',hr',λs h=>(hp.2 s h).2,λs h=>(ha.2 s h).2,?_⟩<;>rw[hb]
 ·exact .leaf (by decide) (by decide)
 ·have:=ig 5 0 ⟨#[]⟩;show dh (.mk 5 0 ⟨#[]⟩ [] [])<=31;omega
 ·exact mD _ _ _
 ·exact O.empty
 ·decide
 ·rfl
def QA:EV:=⟨⟨#[]⟩,tyB,⟨#[]⟩,false,⟨#[64,97,58,98]⟩,⟨#[33,114,58,98]⟩,[],[],0,0,Bh⟩
theorem KC:YT QA:=smr_mk U ⟨by decide,λs h=>by cases h⟩ ⟨by decide,λs h=>by cases h⟩ ⟨by decide,by decide⟩ ⟨by decide,by decide⟩ (by kernel_rfl) (by kernel_rfl)
theorem Vi:MQ QA=true:=by kernel_rfl
theorem M6(e:EV)(i:ByteArray):dx {e with id:=i}=dx e:=rfl
theorem Sv:qy zeroV=(zeroE,15):=R9 (key:=dK) (k:=3) (by unfold ZJ;exact List.mem_cons_self ..) (by kernel_rfl)
theorem PH{e:EV}(hs:YT e)(hf:MQ e=true)(hc:e.is=false->e.key=⟨#[]⟩):qy (dx {e with id:=zW (dx e)})=({e with id:=zW (dx e)},0):=by
 have:=Sa hs hf
 rw[M6,this]
 obtain⟨i,t,k,is,s,r,p,a,d,m,b⟩:=e
 simp only at hc
 cases is with
 |true=>rfl
 |false=>rw[hc U];rfl
theorem M7{e:EV}(hs:Sm e)(i:ByteArray)(H:Hp):au Tryz.prog 21 [.agg (mZ {e with id:=i}),.agg (mZ {e with id:=i})] H (bz H (.v (.bool true))):=by
 have hx:=Vh hs i
 have:=vJ {e with id:=i} {e with id:=i} (by have:=hx.prev.1;omega) (by have:=hx.dH.1;omega) hx.fits H
 rwa [yz _ hx.fits] at this
theorem PI{e:EV}(hs:Sm e)(H:Hp):au Tryz.prog 32 [.agg (mZ e),.agg (mZ e)] H (bz H (.v (.bool true))):=by
 have:=yA e e (by have:=hs.prev.1;omega) (by have:=hs.dH.1;omega) hs.fits H
 rwa [yz _ hs.fits] at this
theorem Vj(H:Hp)(hG:gU H):au Tryz.prog 20 [] H (bz H (.v (.bool true))):=by
 have n1:=λH=>zU QA KC.toSm H
 have hrd:=PH KC Vi (λ_=>rfl)
 have hs1:YT {QA with id:=zW (dx QA)}:=smr_id KC _
 have he:{{QA with id:=zW (dx QA)} with id:=zW (dx {QA with id:=zW (dx QA)})}={QA with id:=zW (dx QA)}:=by rw[M6];rfl
 have n2:=λH h=>BU _ hs1.toSm H h
 rw[he] at n2
 generalize {QA with id:=zW (dx QA)}=x at*
 have mk:=λH h=>wH x hs1.toSm H h
 have rd:=λH h=>Ht (dx x) (YU hs1.make (Bj x) hs1).rw H h
 have rz:=λH h=>Ht zeroV YY H h
 have s1:=λH=>vJ x x (by have:=hs1.prev.1;omega) (by have:=hs1.dH.1;omega) hs1.fits H
 have s2:=λH=>yA x x (by have:=hs1.prev.1;omega) (by have:=hs1.dH.1;omega) hs1.fits H
 rw[yz x hs1.fits] at s1 s2
 rw[hrd] at rd
 rw[Sv] at rz
 simp only at rd rz
 clear hrd he hs1
 generalize dx x=m at*
 generalize zeroE=z at*
 obtain⟨xi,xt,xk,xs,xu,xr,xp,xa,xd,xm,xb⟩:=x
 obtain⟨zi,zt,zk,zs,zu,zr,zp,za,zd,zm,zb⟩:=z
 obtain⟨m0,m1,m2,m3,m4⟩:=m
 obtain⟨b0,b1,b2,b3,b4⟩:=xb
 obtain⟨c0,c1,c2,c3,c4⟩:=zb
 refine aF (n:=44) (H0:=H) (I:=[]) Tryz.func20 (by kernel_rfl) U (by rw[Tryz.ntmps20];rfl) .nil ?_
 refine S.sq (S.rg ?_)
 refine S.qu (Z.as U) ?_
 refine US.nil (UQ.then (S.sq (S.rg ?_)))
 refine S.qu (Z.eq (u':=.agg (aD Bh)) (Z.bd [0] iE U U U U U U) U) ?_
 refine S.qu (Z.eq (u':=.agg (mZ QA)) (Z.bd [1,4,5,10] Ch U U U U U U) U) ?_
 refine S.qu (Z.call U U (λH=>n1 H)) ?_
 refine S.dd (D.al z28 U U U (λp1=>?_))
 refine S.s (D.st 0 gy U U U U U U U U (λ_=>?_))
 refine US.nil (UQ.then (S.sq (S.rg ?_)))
 refine S.qu (Z.dA 0 gy U U U) ?_
 refine S.qu (Z.fe U U (λ_ hS=>mk _ (hG.mono hS))) ?_
 refine S.qu (Z.fe U U (λ_ hS=>rd _ (hG.mono hS))) ?_
 refine S.qu (Z.mv U) ?_
 refine S.qu (Z.ex U U) ?_
 refine S.qu (Z.ex U U) ?_
 refine S.dd (D.al z28 U U U (λp2=>?_))
 refine S.s (D.st 0 gy U U U U U U U U (λ_=>?_))
 refine S.qu (Z.as U) ?_
 refine US.nil (UQ.then (S.sq (S.rg ?_)))
 refine S.qu (Z.eq (u':=.agg (aD zeroV)) (Z.bd [] iE U U U U U U) U) ?_
 refine S.qu (Z.fe U U (λ_ hS=>rz _ (hG.mono hS))) ?_
 refine S.qu (Z.mv U) ?_
 refine S.qu (Z.ex U U) ?_
 refine S.qu (Z.ex U U) ?_
 refine S.dd (D.al z28 U U U (λp4=>?_))
 refine S.s (D.st 0 gy U U U U U U U U (λ_=>?_))
 refine S.qu (Z.as U) ?_
 refine US.nil (UQ.then (S.sq ?_))
 refine' UW.bG (by kernel_rfl) [0,1,3,7,7,31,63,127,255,511,1023,2047,4095,4095,16383,32767,65535,131071,262143,524287,131071,1179647,4194303,8388607,16777215] [some 20,some 21,some 22,some 23,some 24,some 25,some 26,some 27,some 28,some 29,some 30,some 31,some 32,some 33,some 34,some 35,some 36,some 37,some 38,some 39,some 40,some 41,some 42,some 43,some 0] [some (20,_),some (21,_),some (22,_),some (23,_),some (24,_),some (25,_),some (26,_),some (27,_),some (28,_),some (29,_),some (30,_),some (31,_),some (32,_),some (33,_),some (34,_),some (35,_),some (36,_),some (37,_),some (38,_),some (39,_),some (40,_),some (41,_),some (42,_),some (43,_),some (0,_)] [] [3,4,12,13,17,21] U (by decide) (by decide) (M.free (by decide) U U ?Es (M.free (by decide) U U ?yc (M.free (by decide) U U ?yf (M.held (by decide) U U ?FR (M.held (by decide) U U ?PE (M.free (by decide) U U ?FT (M.free (by decide) U U ?FU (M.free (by decide) U U ?PG (M.free (by decide) U U ?FV (M.free (by decide) U U ?FW (M.free (by decide) U U ?Kn (M.free (by decide) U U ?Y7 (M.held (by decide) U U ?Ko (M.held (by decide) U U ?Kq (M.free (by decide) U U ?Kr (M.free (by decide) U U ?Y8 (M.free (by decide) U U ?Kt (M.held (by decide) U U ?Ku (M.free (by decide) U U ?Kv (M.free (by decide) U U ?Y9 (M.free (by decide) U U ?Kw (M.held (by decide) U U ?Ky (M.free (by decide) U U ?Kz (M.free (by decide) U U ?Za (M.free (by decide) U U ?KA M.nil))))))))))))))))))))))))) ?Oo
 case Es=>(intro _;exact Z.mv rfl)
 case yc=>(intro _;exact Z.tT (Z.bi rfl rfl rfl) (decide_eq_true (by omega)))
 case yf=>(intro _;exact Z.mv rfl)
 case FR=>exact Z.on (Z.dA 2 gy rfl rfl rfl)
 case PE=>exact Z.on (Z.dA 1 gy rfl rfl rfl)
 case FT=>(intro _;exact Z.on (Z.call rfl rfl (λH=>s1 H)))
 case FU=>(intro _;exact Z.pick rfl rfl)
 case PG=>(intro _;exact Z.mv rfl)
 case FV=>(intro _;exact Z.on (Z.mv rfl))
 case FW=>(intro _;exact Z.on (Z.tT (Z.bi rfl rfl rfl) (decide_eq_true (by omega))))
 case Kn=>(intro _;exact Z.pick rfl rfl)
 case Y7=>(intro _;exact Z.mv rfl)
 case Ko=>exact Z.on (Z.dA 2 gy rfl rfl rfl)
 case Kq=>exact Z.on (Z.dA 1 gy rfl rfl rfl)
 case Kr=>(intro _;exact Z.on (Z.call rfl rfl (λH=>s2 H)))
 case Y8=>(intro _;exact Z.pick rfl rfl)
 case Kt=>(intro _;exact Z.mv rfl)
 case Ku=>exact Z.on (Z.dA 2 gy rfl rfl rfl)
 case Kv=>(intro _;exact Z.on (Z.fe rfl rfl (λ_ hS=>n2 _ (hG.mono hS))))
 case Y9=>(intro _;exact Z.on (Z.fc ft28_0 rfl rfl))
 case Kw=>(intro _;exact Z.on (Z.fa wY rfl))
 case Ky=>exact Z.on (Z.di 2 ed rfl rfl rfl)
 case Kz=>(intro _;exact Z.on (Z.bs rfl rfl rfl))
 case Za=>(intro _;exact Z.pick rfl rfl)
 case KA=>(intro _;exact Z.as rfl)
 refine CH.nil ?_
 simp only[app,bV]
 refine UQ.then (UW.ret ?_)
 refine S.bK (λ_=>ak U U) ?_
 focus (rw[beq_self_eq_true];done)
def PK:ByteArray:=⟨#[97,110,121]⟩
theorem PL(c d:List Int)(k j:Int)(hc:zh c)(hd:zh d)(hk0:0<=k)(hk1:k<=255)(hj0:0<=j)(hj1:j<=255)(H:Hp)(hG:gU H):au Tryz.prog 8 [BD c,BD d,.v (.int .u8 k),.v (.int .u8 j)] H (bz H (.v (.bool true))):=by
 have e1:=λH=>FY c hc k hk0 (by omega) H
 have e2:=λH=>FY d hd j hj0 (by omega) H
 have hx:Sm {dS c k with id:=PK}:=Vh (Fy hc k hk0 (by omega)).1.toSm _
 have hy:=(Fy hd j hj0 (by omega)).1.toSm
 have m1:=λH h=>wH _ hx H h
 have m2:=λH=>yB _ hx H
 have p1:=λH h=>M4 _ hx H h
 have p2:=λH=>Km _ hx H
 have n1:=λH h=>BU _ hx H h
 have n2:=λH=>zU _ hx H
 have s0:=λH=>DI (dx {dS c k with id:=PK}) hx.make.fits (dx {dS c k with id:=PK}) H
 rw[Bf _ hx.make.fits] at s0
 have s1:=λH=>M7 hx (zW (dx {dS c k with id:=PK})) H
 have s2:=λH=>yA {dS c k with id:=PK} (dS d j) (by have:(dS c k).prev.length<=24:=hx.prev.1;show(dS c k).prev.length<=1000;omega) (by have:(dS c k).dH.length<=24:=hx.dH.1;show(dS c k).dH.length<=1000;omega) hx.fits H
 have s3:=λH=>vJ {dS c k with id:=PK} (dS d j) (by have:(dS c k).prev.length<=24:=hx.prev.1;show(dS c k).prev.length<=1000;omega) (by have:(dS c k).dH.length<=24:=hx.dH.1;show(dS c k).dH.length<=1000;omega) hx.fits H
 have s4:=λH=>PI hx H
 generalize Fw _ _=sm at*
 clear hx hy
 generalize dS c k=x at*
 generalize dS d j=y at*
 generalize dx {x with id:=PK}=m at*
 generalize zW m=mi at*
 obtain⟨xi,xt,xk,xs,xu,xr,xp,xa,xd,xm,xb⟩:=x
 obtain⟨zi,zt,zk,zs,zu,zr,zp,za,zd,zm,zb⟩:=y
 obtain⟨m0,m1',m2',m3,m4⟩:=m
 obtain⟨b0,b1,b2,b3,b4⟩:=xb
 obtain⟨c0,c1,c2,c3,c4⟩:=zb
 simp only at*
 refine aF (n:=54) (H0:=H) (I:=[]) Tryz.func8 (by kernel_rfl) U (by rw[Tryz.ntmps8];rfl) .nil ?_
 refine S.sq (S.rg ?_)
 refine S.qu (Z.as U) ?_
 refine US.nil (UQ.then (S.sq (S.rg ?_)))
 refine S.qu (Z.mv U) ?_
 refine S.qu (Z.mv U) ?_
 refine S.qu (Z.call U U (λH=>e1 H)) ?_
 refine S.dd (D.al z28 U U U (λp9=>?_))
 refine S.s (D.st 0 gy U U U U U U U U (λ_=>?_))
 refine US.nil (UQ.then (S.sq (S.rg ?_)))
 refine S.qu (Z.mv U) ?_
 refine S.qu (Z.mv U) ?_
 refine S.qu (Z.call U U (λH=>e2 H)) ?_
 refine S.dd (D.al z28 U U U (λp10=>?_))
 refine S.s (D.st 0 gy U U U U U U U U (λ_=>?_))
 refine US.nil (UQ.then (S.sq (S.rg ?_)))
 refine S.qu (Z.fa wY U) ?_
 refine S.s (D.st 1 ed U U U U U U U U (λ_=>?_))
 refine US.nil (UQ.then (S.sq ?_))
 refine' UW.bG (by kernel_rfl) [0,1,3,7,3,31,63,127,255,511,1023,511,4095,8191,16383,32767,65535,131071,65535,524287,1048575,2097151,4194303,8388607,8388607,33554431,8388607,8388607,268435455,536870911,1073741823,2147483647,4294967295,4294967295,17179869183,34359738367,68719476735] [some 18,some 19,some 20,some 21,some 22,some 23,some 24,some 25,some 26,some 27,some 28,some 29,some 30,some 31,some 32,some 33,some 34,some 35,some 36,some 37,some 38,some 39,some 40,some 41,some 42,some 43,some 44,some 45,some 46,some 47,some 48,some 49,some 50,some 51,some 52,some 53,some 8] [some (18,_),some (19,_),some (20,_),some (21,_),some (22,_),some (23,_),some (24,_),some (25,_),some (26,_),some (27,_),some (28,_),some (29,_),some (30,_),some (31,_),some (32,_),some (33,_),some (34,_),some (35,_),some (36,_),some (37,_),some (38,_),some (39,_),some (40,_),some (41,_),some (42,_),some (43,_),some (44,_),some (45,_),some (46,_),some (47,_),some (48,_),some (49,_),some (50,_),some (51,_),some (52,_),some (53,_),some (8,_)] [] [2,4,9,11,16,18,23,24,26,27,32,33] U (by decide) (by decide) (M.free (by decide) U U ?iX (M.free (by decide) U U ?iY (M.held (by decide) U U ?iZ (M.free (by decide) U U ?ja (M.held (by decide) U U ?jb (M.free (by decide) U U ?jc (M.free (by decide) U U ?jd (M.free (by decide) U U ?kH (M.free (by decide) U U ?o6 (M.held (by decide) U U ?sI (M.free (by decide) U U ?nS (M.held (by decide) U U ?nT (M.free (by decide) U U ?y7 (M.free (by decide) U U ?y8 (M.free (by decide) U U ?y9 (M.free (by decide) U U ?IA (M.held (by decide) U U ?IB (M.free (by decide) U U ?IC (M.held (by decide) U U ?IE (M.free (by decide) U U ?IG (M.free (by decide) U U ?II (M.free (by decide) U U ?IJ (M.free (by decide) U U ?IK (M.held (by decide) U U ?Zb (M.held (by decide) U U ?Zc (M.free (by decide) U U ?Zd (M.held (by decide) U U ?Ze (M.held (by decide) U U ?Zf (M.free (by decide) U U ?Zg (M.free (by decide) U U ?Zh (M.free (by decide) U U ?Zi (M.free (by decide) U U ?Zj (M.held (by decide) U U ?Zk (M.held (by decide) U U ?Zl (M.free (by decide) U U ?Zm (M.free (by decide) U U ?Zn (M.free (by decide) U U ?Zo M.nil))))))))))))))))))))))))))))))))))))) ?sj
 case iX=>(intro _;exact Z.fe rfl rfl (λ_ hS=>Vj _ (hG.mono hS)))
 case iY=>(intro _;exact Z.mv rfl)
 case iZ=>exact Z.on (Z.dA 1 gy rfl rfl rfl)
 case ja=>(intro _;exact Z.on (Z.fe rfl rfl (λ_ hS=>m1 _ (hG.mono hS))))
 case jb=>exact Z.on (Z.dA 1 gy rfl rfl rfl)
 case jc=>(intro _;exact Z.on (Z.call rfl rfl (λH=>m2 H)))
 case jd=>(intro _;exact Z.on (Z.call rfl rfl (λH=>s0 H)))
 case kH=>(intro _;exact Z.pick rfl rfl)
 case o6=>(intro _;exact Z.mv rfl)
 case sI=>exact Z.on (Z.dA 1 gy rfl rfl rfl)
 case nS=>(intro _;exact Z.on (Z.fe rfl rfl (λ_ hS=>p1 _ (hG.mono hS))))
 case nT=>exact Z.on (Z.dA 1 gy rfl rfl rfl)
 case y7=>(intro _;exact Z.on (Z.call rfl rfl (λH=>p2 H)))
 case y8=>(intro _;exact Z.on (Z.tT (Z.bs rfl rfl rfl) (by exact beq_self_eq_true _)))
 case y9=>(intro _;exact Z.pick rfl rfl)
 case IA=>(intro _;exact Z.mv rfl)
 case IB=>exact Z.on (Z.dA 1 gy rfl rfl rfl)
 case IC=>(intro _;exact Z.on (Z.fe rfl rfl (λ_ hS=>n1 _ (hG.mono hS))))
 case IE=>exact Z.on (Z.dA 1 gy rfl rfl rfl)
 case IG=>(intro _;exact Z.on (Z.call rfl rfl (λH=>n2 H)))
 case II=>(intro _;exact Z.on (Z.call rfl rfl (λH=>s1 H)))
 case IJ=>(intro _;exact Z.pick rfl rfl)
 case IK=>(intro _;exact Z.mv rfl)
 case Zb=>exact Z.on (Z.dA 1 gy rfl rfl rfl)
 case Zc=>exact Z.on (Z.dA 0 gy rfl rfl rfl)
 case Zd=>(intro _;exact Z.on (Z.call rfl rfl (λH=>s2 H)))
 case Ze=>exact Z.on (Z.dA 1 gy rfl rfl rfl)
 case Zf=>exact Z.on (Z.dA 0 gy rfl rfl rfl)
 case Zg=>(intro _;exact Z.on (Z.call rfl rfl (λH=>s3 H)))
 case Zh=>(intro _;exact Z.on (Z.tT (Z.beq Tryz.underlying4 rfl rfl) (by exact beq_self_eq_true _)))
 case Zi=>(intro _;exact Z.pick rfl rfl)
 case Zj=>(intro _;exact Z.mv rfl)
 case Zk=>exact Z.on (Z.dA 1 gy rfl rfl rfl)
 case Zl=>exact Z.on (Z.dA 1 gy rfl rfl rfl)
 case Zm=>(intro _;exact Z.on (Z.call rfl rfl (λH=>s4 H)))
 case Zn=>(intro _;exact Z.pick rfl rfl)
 case Zo=>(intro _;exact Z.as rfl)
 refine CH.nil ?_
 simp only[app,bV]
 refine UQ.then (UW.ret ?_)
 refine S.bK (λ_=>ak U U) ?_
 rfl
end Go.Proofs.YtonpfomjoiaacaaGreatDoor
end
