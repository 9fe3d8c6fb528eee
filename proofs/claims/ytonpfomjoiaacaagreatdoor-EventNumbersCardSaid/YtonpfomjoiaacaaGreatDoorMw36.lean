/- A part of the proof. -/
import Derived.Test.YtonpfomjoiaacaaGreatDoorMw35
set_option maxRecDepth 100000
set_option maxHeartbeats 4000000
set_option linter.unusedSectionVars false
set_option linter.unusedVariables false
set_option linter.unusedSimpArgs false
section
namespace Go.Proofs.YtonpfomjoiaacaaGreatDoor
open Go Go.iG Go.RowKit
def oo1(v:V):Bool:=true&&(r9 v dN 3&&oP (aH v dN).1.t)
def oo2(v:V):Bool:=oo1 v&&(r9 v bQ 3&&jU (aH v bQ).1.t)
def oo3(v:V):Bool:=oo2 v&&(r9 v fQ 3&&jV (aH v fQ).1.t)
def oo4(v:V):Bool:=oo3 v&&(r9 v fK 4&&dI (fC (aH v fK).1))
def oo5(v:V):Bool:=oo4 v&&(r9 v fF 4&&dI (fC (aH v fF).1))
def oo6(v:V):Bool:=oo5 v&&(r9 v dU 2&&decide (0<=(aH v dU).1.n))
def oo7(v:V):Bool:=oo6 v&&(r9 v iK 2&&decide (0<=(aH v iK).1.n))
def oo8(v:V):Bool:=oo7 v&&(r9 v aO 5&&true)
def oo9(v:V):Bool:=oo8 v&&(r9 v aY 5&&true)
def aaD(v:V):Bool:=oo9 v&&(r9 v dK 3&&decide ((aH v dK).1.t.size<=80))
structure RW(v:V):Prop where
 fits:Fits v
 dep:cZ v<=32
 print:(aR v).size<=65536
 pr:Pr v
 CS:Pr (fJ v)
 prR:Pr (jT v)
 user:(aH v bQ).1.t=⟨#[]⟩\/(aH v bQ).1.t∈yR
 room:(aH v fQ).1.t=⟨#[]⟩\/(aH v fQ).1.t∈DK
 prev:(∀s∈fC (aH v fK).1,s.size<=1000/\(s.data.toList.all λb=>b.toNat<128)=true)/\(aH v fK).1.vs.length<=1000
 bL:(∀s∈fC (aH v fF).1,s.size<=1000/\(s.data.toList.all λb=>b.toNat<128)=true)/\(aH v fF).1.vs.length<=1000
theorem RQ.rw{v:V}(h:RQ v):RW v:=⟨h.fits,h.dep,h.print,h.pr,h.CS,h.prR,h.user,h.room,h.prev,h.bL⟩
theorem aaE:RW zeroV where
 fits:=nQ
 dep:=Int.le_trans (gN _ _ _) (by decide)
 print:=by rw[show(aR zeroV).size=4 by kernel_rfl];decide
 pr:=Sn nQ (.leaf (by decide) (by decide))
 CS:=Sk nQ (.leaf (by decide) (by decide))
 prR:=Sn (Ol nQ (by decide)) (((Wt.leaf (N:=1000) (by decide) (by decide)).red (by decide)).up (by decide))
 user:=.inl U
 room:=.inl U
 prev:=⟨(λs h=>by cases h),by decide⟩
 bL:=⟨(λs h=>by cases h),by decide⟩
theorem ok_oo(v:V):((aH v dK).2=true->Sr jU jV dI v=aaD v)/\((aH v dK).2=false->Sr jU jV dI v=oo9 v):=by
 unfold Sr aaD oo9 oo8 oo7 oo6 oo5 oo4 oo3 oo2 oo1
 constructor<;>intro h
 ·rw[h]
  unfold r9
  rw[h]
  simp only[Bool.true_and,Bool.and_true,Bool.not_true,Bool.false_or,Bool.and_assoc]
 ·rw[h]
  simp only[Bool.true_and,Bool.and_true,Bool.not_false,Bool.true_or,Bool.and_assoc]
theorem iO(v:V)(hq:RW v)(H:Hp)(hG:fA H):au Tryz.prog 15 [.agg (aC v)] H (bB H (.kX [.agg (gZ (ic v).1),.v (.int .u16 (ic v).2)])):=by
 have hv:=hq.fits
 obtain⟨hy,hn⟩:=ok_oo v
 have hr0:Sr jU jV dI v=false->ic v=(zeroE,15):=λh=>by unfold ic xC;rw[if_pos h]
 have hd32:cZ v<=32:=hq.dep
 have hp64:(aR v).size<=65536:=hq.print
 have hr1:Sr jU jV dI v=true->jN v=false->ic v=(zeroE,17):=λh h2=>by unfold ic xC;rw[if_neg (by rw[h];decide),if_neg (by omega),if_neg (by omega),if_pos h2]
 have hr2:Sr jU jV dI v=true->jN v=true->ic v=({WH v with id:=oI v},0):=λh h2=>by unfold ic xC;rw[if_neg (by rw[h];decide),if_neg (by omega),if_neg (by omega),if_neg (by rw[h2];decide)]
 unfold WH at hr2
 have hdp:∀H,au Tryz.prog 65 [.agg (aC v)] H (bB H (.v (.int .i64 (cZ v)))):=λH=>Uw v hv (by omega) H
 have hpr:∀H,fA H->au Tryz.prog 66 [.agg (aC v)] H (bB H (.v (.string (aR v)))):=λH h=>vo v hv hq.pr H h
 have hhs:∀H,fA H->au Tryz.prog 67 [.agg (aC v)] H (bB H (.v (.bool (jN v)))):=λH h=>N9 v hv hq.CS H h
 have hid:∀H,fA H->au Tryz.prog 42 [.agg (aC v)] H (bB H (.v (.string (oI v)))):=λH h=>Sq v hv hq.prR H h
 have hgt:∀H,au Tryz.prog 63 [.agg (aC v),.v (.string dK)] H (bB H (.kX [.agg (aC (aH v dK).1),.v (.bool (aH v dK).2)])):=λH=>tq v hv dK H
 have hs1:∀p G,aP G (oQ p v true)->au Tryz.prog 49 [.ptr p 0,.v (.string dN),.v (.int .i64 3),.iF 50 [],.iF 51 []] (aD G (oQ p v true)) (λu H'=>∃news,aP G news/\H'=aD G news/\(u=.v (.string (aH v dN).1.t)/\news=oQ p v (oo1 v))):=λp G hd=>vI p v hv true dN 3 _ _ _ _ (λH=>sF _ H) (λH=>Mf _ H) G hd
 have hs2:∀p G,aP G (oQ p v (oo1 v))->au Tryz.prog 49 [.ptr p 0,.v (.string bQ),.v (.int .i64 3),.iF 50 [],.iF 52 []] (aD G (oQ p v (oo1 v))) (λu H'=>∃news,aP G news/\H'=aD G news/\(u=.v (.string (aH v bQ).1.t)/\news=oQ p v (oo2 v))):=λp G hd=>vI p v hv (oo1 v) bQ 3 _ _ _ _ (λH=>sF _ H) (λH=>Uu _ hq.user H) G hd
 have hs3:∀p G,aP G (oQ p v (oo2 v))->au Tryz.prog 49 [.ptr p 0,.v (.string fQ),.v (.int .i64 3),.iF 50 [],.iF 53 []] (aD G (oQ p v (oo2 v))) (λu H'=>∃news,aP G news/\H'=aD G news/\(u=.v (.string (aH v fQ).1.t)/\news=oQ p v (oo3 v))):=λp G hd=>vI p v hv (oo2 v) fQ 3 _ _ _ _ (λH=>sF _ H) (λH=>Uv _ hq.room H) G hd
 have hs4:∀p G,aP G (oQ p v (oo3 v))->au Tryz.prog 54 [.ptr p 0,.v (.string fK),.v (.int .i64 4),.iF 55 [],.iF 56 []] (aD G (oQ p v (oo3 v))) (λu H'=>∃news,aP G news/\H'=aD G news/\(u=strs (fC (aH v fK).1)/\news=oQ p v (oo4 v))):=λp G hd=>H8 p v hv (oo3 v) fK 4 _ _ _ _ (λH=>BF _ (mR hv fK) H) (λH=>BG _ (by unfold fC;rw[List.length_map];exact hq.prev.2) hq.prev.1 H) G hd
 have hs5:∀p G,aP G (oQ p v (oo4 v))->au Tryz.prog 54 [.ptr p 0,.v (.string fF),.v (.int .i64 4),.iF 55 [],.iF 56 []] (aD G (oQ p v (oo4 v))) (λu H'=>∃news,aP G news/\H'=aD G news/\(u=strs (fC (aH v fF).1)/\news=oQ p v (oo5 v))):=λp G hd=>H8 p v hv (oo4 v) fF 4 _ _ _ _ (λH=>BF _ (mR hv fF) H) (λH=>BG _ (by unfold fC;rw[List.length_map];exact hq.bL.2) hq.bL.1 H) G hd
 have hs6:∀p G,aP G (oQ p v (oo5 v))->au Tryz.prog 57 [.ptr p 0,.v (.string dU),.v (.int .i64 2),.iF 58 [],.iF 59 []] (aD G (oQ p v (oo5 v))) (λu H'=>∃news,aP G news/\H'=aD G news/\(u=.v (.int .i64 (aH v dU).1.n)/\news=oQ p v (oo6 v))):=λp G hd=>H9 p v hv (oo5 v) dU 2 _ _ _ _ (λH=>H5 _ H) (λH=>H7 _ H) G hd
 have hs7:∀p G,aP G (oQ p v (oo6 v))->au Tryz.prog 57 [.ptr p 0,.v (.string iK),.v (.int .i64 2),.iF 58 [],.iF 59 []] (aD G (oQ p v (oo6 v))) (λu H'=>∃news,aP G news/\H'=aD G news/\(u=.v (.int .i64 (aH v iK).1.n)/\news=oQ p v (oo7 v))):=λp G hd=>H9 p v hv (oo6 v) iK 2 _ _ _ _ (λH=>H5 _ H) (λH=>H7 _ H) G hd
 have hs8:∀p G,aP G (oQ p v (oo7 v))->au Tryz.prog 60 [.ptr p 0,.v (.string aO),.v (.int .i64 5),.iF 61 [],.iF 62 []] (aD G (oQ p v (oo7 v))) (λu H'=>∃news,aP G news/\H'=aD G news/\(u=.agg (aC (aH v aO).1)/\news=oQ p v (oo8 v))):=λp G hd=>Ia p v hv (oo7 v) aO 5 _ _ _ _ (λH=>DN _ H) (λH=>H6 _ H) G hd
 have hs9:∀p G,aP G (oQ p v (oo8 v))->au Tryz.prog 60 [.ptr p 0,.v (.string aY),.v (.int .i64 5),.iF 61 [],.iF 62 []] (aD G (oQ p v (oo8 v))) (λu H'=>∃news,aP G news/\H'=aD G news/\(u=.agg (aC (aH v aY).1)/\news=oQ p v (oo9 v))):=λp G hd=>Ia p v hv (oo8 v) aY 5 _ _ _ _ (λH=>DN _ H) (λH=>H6 _ H) G hd
 have hs10:∀p G,aP G (oQ p v (oo9 v))->au Tryz.prog 49 [.ptr p 0,.v (.string dK),.v (.int .i64 3),.iF 50 [],.iF 64 []] (aD G (oQ p v (oo9 v))) (λu H'=>∃news,aP G news/\H'=aD G news/\(u=.v (.string (aH v dK).1.t)/\news=oQ p v (aaD v))):=λp G hd=>vI p v hv (oo9 v) dK 3 _ _ _ _ (λH=>sF _ H) (λH=>Rk _ H) G hd
 generalize oo1 v=x1 at*
 generalize oo2 v=x2 at*
 generalize oo3 v=x3 at*
 generalize oo4 v=x4 at*
 generalize oo5 v=x5 at*
 generalize oo6 v=x6 at*
 generalize oo7 v=x7 at*
 generalize oo8 v=x8 at*
 generalize oo9 v=x9 at*
 generalize aaD v=x10 at*
 generalize Sr jU jV dI v=ok at*
 generalize ic v=res at*
 generalize jN v=hsd at*
 generalize oI v=id at*
 generalize cZ v=dp at*
 generalize aR v=pv at*
 generalize (aH v dN).1.t=ty at*
 generalize (aH v bQ).1.t=sd at*
 generalize (aH v fQ).1.t=rm at*
 generalize fC (aH v fK).1=pe at*
 generalize fC (aH v fF).1=ae at*
 generalize (aH v dU).1.n=de at*
 generalize (aH v iK).1.n=ti at*
 generalize (aH v aO).1=bo at*
 generalize (aH v aY).1=ha at*
 generalize (aH v dK).2=is at*
 generalize (aH v dK).1=sk at*
 clear hq hv
 obtain⟨k,n,t,ks,vs⟩:=v
 obtain⟨k1,n1,t1,ks1,vs1⟩:=bo
 obtain⟨k2,n2,t2,ks2,vs2⟩:=sk
 obtain⟨k3,n3,t3,ks3,vs3⟩:=ha
 unfold oQ at*
 cases is with
 |true=>
  have hy:=hy U
  subst hy
  clear hn
  cases ok with
  |false=>
   rw[hr0 U]
   refine aF (n:=66) (H0:=H) (I:=[]) Tryz.func15 (by kernel_rfl) U (by rw[Tryz.ntmps15];rfl) .nil<|?_
   refine Q.rg<|S.dd<|D.box U U U λp1=>S.dd<|D.al z28 U U U λp2=>Q.as U<|Q.nt<|Q.rg<|S.qu (Z.bW 1 av U U U)<|S.qu (Z.bd [0,5] Uq U U U U U U)<|S.dd<|D.box U U U λp8=>Q.as U<|Q.nt<|Q.rg<|Q.mv U<|S.dd<|D.co (.cons 0 U .nil) U U (λG hD=>hs1 _ G hD)<|?_
   rintro _ _ ⟨rfl,rfl⟩
   refine Q.mv U<|S.dd<|D.co (.cons 0 U .nil) U U (λG hD=>hs2 _ G hD)<|?_
   rintro _ _ ⟨rfl,rfl⟩
   refine Q.mv U<|S.dd<|D.co (.cons 0 U .nil) U U (λG hD=>hs3 _ G hD)<|?_
   rintro _ _ ⟨rfl,rfl⟩
   refine Q.mv U<|S.dd<|D.co (.cons 0 U .nil) U U (λG hD=>hs4 _ G hD)<|?_
   rintro _ _ ⟨rfl,rfl⟩
   refine Q.mv U<|S.dd<|D.co (.cons 0 U .nil) U U (λG hD=>hs5 _ G hD)<|?_
   rintro _ _ ⟨rfl,rfl⟩
   refine Q.mv U<|S.dd<|D.co (.cons 0 U .nil) U U (λG hD=>hs6 _ G hD)<|?_
   rintro _ _ ⟨rfl,rfl⟩
   refine Q.mv U<|S.dd<|D.co (.cons 0 U .nil) U U (λG hD=>hs7 _ G hD)<|?_
   rintro _ _ ⟨rfl,rfl⟩
   refine Q.mv U<|S.dd<|D.co (.cons 0 U .nil) U U (λG hD=>hs8 _ G hD)<|?_
   rintro _ _ ⟨rfl,rfl⟩
   refine S.qu (Z.bd [1,4,5,6,7,8,9,10] wh U U U U U U)<|S.dd<|D.al z28 U U U λp5=>S.s<|D.st 0 di U U U U U U U U λ_=>Q.nt<|Q.rg<|Q.mv U<|S.dd<|D.co (.cons 1 U .nil) U U (λG hD=>hs9 _ G hD)<|?_
   rintro _ _ ⟨rfl,rfl⟩
   refine Q.nt<|S.sq<|Q.rg<|S.qu (Z.bW 3 av U U U)<|S.qu (Z.call U U (λH=>hgt H))<|Q.mv U<|S.qu (Z.ex U U)<|S.qu (Z.ex U U)<|Q.fa jW U<|S.s<|D.st 1 oo U U U U U U U U λ_=>Q.nt<|Q.rg<|Q.fa jW U<|Q.lc 1 oo U U U<|Q.nt<|S.cT U U<|S.rg<|Q.mv U<|S.dd<|D.co (.cons 0 U .nil) U U (λG hD=>hs10 _ G hD)<|?_
   rintro _ _ ⟨rfl,rfl⟩
   refine Q.fa sD U<|S.s<|D.st 1 dW U U U U U U U U λ_=>Q.nt<|S.sq<|UW.block<|Q.rg<|Q.mv U<|S.qu (Z.oZ U)<|Q.fa jh U<|Q.lc 0 oo U U U<|S.qu (Z.not U)<|Q.as U<|Q.nt<|S.cT U U<|Q.rg<|S.qu (Z.bd [] wh U U U U U U)<|S.s<|D.st 2 di U U U U U U U U λ_=>Q.as U<|Q.nt<|UW.ret<|UQ.aI<|UQ.ax<|S.bH (λhd=>gF U (jX (k:=2) hd U U Iw Iy) (bJ U))<|?_
   rfl
  |true=>
   cases hsd with
   |false=>
    rw[hr1 U U]
    refine aF (n:=66) (H0:=H) (I:=[]) Tryz.func15 (by kernel_rfl) U (by rw[Tryz.ntmps15];rfl) .nil<|?_
    refine Q.rg<|S.dd<|D.box U U U λp1=>S.dd<|D.al z28 U U U λp2=>Q.as U<|Q.nt<|Q.rg<|S.qu (Z.bW 1 av U U U)<|S.qu (Z.bd [0,5] Uq U U U U U U)<|S.dd<|D.box U U U λp8=>Q.as U<|Q.nt<|Q.rg<|Q.mv U<|S.dd<|D.co (.cons 0 U .nil) U U (λG hD=>hs1 _ G hD)<|?_
    rintro _ _ ⟨rfl,rfl⟩
    refine Q.mv U<|S.dd<|D.co (.cons 0 U .nil) U U (λG hD=>hs2 _ G hD)<|?_
    rintro _ _ ⟨rfl,rfl⟩
    refine Q.mv U<|S.dd<|D.co (.cons 0 U .nil) U U (λG hD=>hs3 _ G hD)<|?_
    rintro _ _ ⟨rfl,rfl⟩
    refine Q.mv U<|S.dd<|D.co (.cons 0 U .nil) U U (λG hD=>hs4 _ G hD)<|?_
    rintro _ _ ⟨rfl,rfl⟩
    refine Q.mv U<|S.dd<|D.co (.cons 0 U .nil) U U (λG hD=>hs5 _ G hD)<|?_
    rintro _ _ ⟨rfl,rfl⟩
    refine Q.mv U<|S.dd<|D.co (.cons 0 U .nil) U U (λG hD=>hs6 _ G hD)<|?_
    rintro _ _ ⟨rfl,rfl⟩
    refine Q.mv U<|S.dd<|D.co (.cons 0 U .nil) U U (λG hD=>hs7 _ G hD)<|?_
    rintro _ _ ⟨rfl,rfl⟩
    refine Q.mv U<|S.dd<|D.co (.cons 0 U .nil) U U (λG hD=>hs8 _ G hD)<|?_
    rintro _ _ ⟨rfl,rfl⟩
    refine S.qu (Z.bd [1,4,5,6,7,8,9,10] wh U U U U U U)<|S.dd<|D.al z28 U U U λp5=>S.s<|D.st 0 di U U U U U U U U λ_=>Q.nt<|Q.rg<|Q.mv U<|S.dd<|D.co (.cons 1 U .nil) U U (λG hD=>hs9 _ G hD)<|?_
    rintro _ _ ⟨rfl,rfl⟩
    refine Q.nt<|S.sq<|Q.rg<|S.qu (Z.bW 3 av U U U)<|S.qu (Z.call U U (λH=>hgt H))<|Q.mv U<|S.qu (Z.ex U U)<|S.qu (Z.ex U U)<|Q.fa jW U<|S.s<|D.st 1 oo U U U U U U U U λ_=>Q.nt<|Q.rg<|Q.fa jW U<|Q.lc 1 oo U U U<|Q.nt<|S.cT U U<|S.rg<|Q.mv U<|S.dd<|D.co (.cons 0 U .nil) U U (λG hD=>hs10 _ G hD)<|?_
    rintro _ _ ⟨rfl,rfl⟩
    refine Q.fa sD U<|S.s<|D.st 1 dW U U U U U U U U λ_=>Q.nt<|S.sq<|UW.block<|Q.rg<|Q.mv U<|S.qu (Z.oZ U)<|Q.fa jh U<|Q.lc 0 oo U U U<|S.qu (Z.not U)<|Q.as U<|Q.nt<|S.cF U U<|Q.rg<|S.qu (Z.bW 3 av U U U)<|S.qu (Z.call U U (λH=>hdp H))<|Q.bi U U U<|Q.as U<|Q.nt<|S.cF U (decide_eq_false (by omega))<|Q.rg<|S.qu (Z.bW 3 av U U U)<|S.qu (Z.bK U U (λ_ hS=>hpr _ (hG.mono hS)))<|S.qu (Z.wm Tryz.underlying9 U)<|Q.bi U U U<|Q.as U<|Q.nt<|S.cF U (decide_eq_false (by omega))<|Q.rg<|S.qu (Z.bW 3 av U U U)<|S.qu (Z.bK U U (λ_ hS=>hhs _ (hG.mono hS)))<|S.qu (Z.not U)<|Q.as U<|Q.nt<|S.cT U U<|Q.rg<|S.qu (Z.bd [] wh U U U U U U)<|S.s<|D.st 2 di U U U U U U U U λ_=>Q.as U<|Q.nt<|UW.ret<|UQ.aI<|UQ.ax<|S.bH (λhd=>gF U (jX (k:=2) hd U U Iw Iy) (bJ U))<|?_
    rfl
   |true=>
    rw[hr2 U U]
    refine aF (n:=66) (H0:=H) (I:=[]) Tryz.func15 (by kernel_rfl) U (by rw[Tryz.ntmps15];rfl) .nil<|?_
    refine Q.rg<|S.dd<|D.box U U U λp1=>S.dd<|D.al z28 U U U λp2=>Q.as U<|Q.nt<|Q.rg<|S.qu (Z.bW 1 av U U U)<|S.qu (Z.bd [0,5] Uq U U U U U U)<|S.dd<|D.box U U U λp8=>Q.as U<|Q.nt<|Q.rg<|Q.mv U<|S.dd<|D.co (.cons 0 U .nil) U U (λG hD=>hs1 _ G hD)<|?_
    rintro _ _ ⟨rfl,rfl⟩
    refine Q.mv U<|S.dd<|D.co (.cons 0 U .nil) U U (λG hD=>hs2 _ G hD)<|?_
    rintro _ _ ⟨rfl,rfl⟩
    refine Q.mv U<|S.dd<|D.co (.cons 0 U .nil) U U (λG hD=>hs3 _ G hD)<|?_
    rintro _ _ ⟨rfl,rfl⟩
    refine Q.mv U<|S.dd<|D.co (.cons 0 U .nil) U U (λG hD=>hs4 _ G hD)<|?_
    rintro _ _ ⟨rfl,rfl⟩
    refine Q.mv U<|S.dd<|D.co (.cons 0 U .nil) U U (λG hD=>hs5 _ G hD)<|?_
    rintro _ _ ⟨rfl,rfl⟩
    refine Q.mv U<|S.dd<|D.co (.cons 0 U .nil) U U (λG hD=>hs6 _ G hD)<|?_
    rintro _ _ ⟨rfl,rfl⟩
    refine Q.mv U<|S.dd<|D.co (.cons 0 U .nil) U U (λG hD=>hs7 _ G hD)<|?_
    rintro _ _ ⟨rfl,rfl⟩
    refine Q.mv U<|S.dd<|D.co (.cons 0 U .nil) U U (λG hD=>hs8 _ G hD)<|?_
    rintro _ _ ⟨rfl,rfl⟩
    refine S.qu (Z.bd [1,4,5,6,7,8,9,10] wh U U U U U U)<|S.dd<|D.al z28 U U U λp5=>S.s<|D.st 0 di U U U U U U U U λ_=>Q.nt<|Q.rg<|Q.mv U<|S.dd<|D.co (.cons 1 U .nil) U U (λG hD=>hs9 _ G hD)<|?_
    rintro _ _ ⟨rfl,rfl⟩
    refine Q.nt<|S.sq<|Q.rg<|S.qu (Z.bW 3 av U U U)<|S.qu (Z.call U U (λH=>hgt H))<|Q.mv U<|S.qu (Z.ex U U)<|S.qu (Z.ex U U)<|Q.fa jW U<|S.s<|D.st 1 oo U U U U U U U U λ_=>Q.nt<|Q.rg<|Q.fa jW U<|Q.lc 1 oo U U U<|Q.nt<|S.cT U U<|S.rg<|Q.mv U<|S.dd<|D.co (.cons 0 U .nil) U U (λG hD=>hs10 _ G hD)<|?_
    rintro _ _ ⟨rfl,rfl⟩
    refine Q.fa sD U<|S.s<|D.st 1 dW U U U U U U U U λ_=>Q.nt<|S.sq<|UW.block<|Q.rg<|Q.mv U<|S.qu (Z.oZ U)<|Q.fa jh U<|Q.lc 0 oo U U U<|S.qu (Z.not U)<|Q.as U<|Q.nt<|S.cF U U<|Q.rg<|S.qu (Z.bW 3 av U U U)<|S.qu (Z.call U U (λH=>hdp H))<|Q.bi U U U<|Q.as U<|Q.nt<|S.cF U (decide_eq_false (by omega))<|Q.rg<|S.qu (Z.bW 3 av U U U)<|S.qu (Z.bK U U (λ_ hS=>hpr _ (hG.mono hS)))<|S.qu (Z.wm Tryz.underlying9 U)<|Q.bi U U U<|Q.as U<|Q.nt<|S.cF U (decide_eq_false (by omega))<|Q.rg<|S.qu (Z.bW 3 av U U U)<|S.qu (Z.bK U U (λ_ hS=>hhs _ (hG.mono hS)))<|S.qu (Z.not U)<|Q.as U<|Q.nt<|S.cF U U<|UW.skip<|UQ.aB<|UQ.then<|Q.rg<|S.qu (Z.bW 3 av U U U)<|S.qu (Z.bK U U (λ_ hS=>hid _ (hG.mono hS)))<|Q.fa su U<|S.s<|D.st 1 dW U U U U U U U U λ_=>Q.nt<|Q.rg<|S.qu (Z.bW 1 di U U U)<|?_
    refine S.s<|D.st 2 di U U U U U U U U λ_=>Q.as U<|Q.nt<|UW.ret<|S.bH (λhd=>gF U (jX (k:=2) hd U U Iw Iy) (bJ U))<|?_
    rfl
 |false=>
  have hn:=hn U
  subst hn
  clear hy
  cases ok with
  |false=>
   rw[hr0 U]
   refine aF (n:=66) (H0:=H) (I:=[]) Tryz.func15 (by kernel_rfl) U (by rw[Tryz.ntmps15];rfl) .nil<|?_
   refine Q.rg<|S.dd<|D.box U U U λp1=>S.dd<|D.al z28 U U U λp2=>Q.as U<|Q.nt<|Q.rg<|S.qu (Z.bW 1 av U U U)<|S.qu (Z.bd [0,5] Uq U U U U U U)<|S.dd<|D.box U U U λp8=>Q.as U<|Q.nt<|Q.rg<|Q.mv U<|S.dd<|D.co (.cons 0 U .nil) U U (λG hD=>hs1 _ G hD)<|?_
   rintro _ _ ⟨rfl,rfl⟩
   refine Q.mv U<|S.dd<|D.co (.cons 0 U .nil) U U (λG hD=>hs2 _ G hD)<|?_
   rintro _ _ ⟨rfl,rfl⟩
   refine Q.mv U<|S.dd<|D.co (.cons 0 U .nil) U U (λG hD=>hs3 _ G hD)<|?_
   rintro _ _ ⟨rfl,rfl⟩
   refine Q.mv U<|S.dd<|D.co (.cons 0 U .nil) U U (λG hD=>hs4 _ G hD)<|?_
   rintro _ _ ⟨rfl,rfl⟩
   refine Q.mv U<|S.dd<|D.co (.cons 0 U .nil) U U (λG hD=>hs5 _ G hD)<|?_
   rintro _ _ ⟨rfl,rfl⟩
   refine Q.mv U<|S.dd<|D.co (.cons 0 U .nil) U U (λG hD=>hs6 _ G hD)<|?_
   rintro _ _ ⟨rfl,rfl⟩
   refine Q.mv U<|S.dd<|D.co (.cons 0 U .nil) U U (λG hD=>hs7 _ G hD)<|?_
   rintro _ _ ⟨rfl,rfl⟩
   refine Q.mv U<|S.dd<|D.co (.cons 0 U .nil) U U (λG hD=>hs8 _ G hD)<|?_
   rintro _ _ ⟨rfl,rfl⟩
   refine S.qu (Z.bd [1,4,5,6,7,8,9,10] wh U U U U U U)<|S.dd<|D.al z28 U U U λp5=>S.s<|D.st 0 di U U U U U U U U λ_=>Q.nt<|Q.rg<|Q.mv U<|S.dd<|D.co (.cons 1 U .nil) U U (λG hD=>hs9 _ G hD)<|?_
   rintro _ _ ⟨rfl,rfl⟩
   refine Q.nt<|S.sq<|Q.rg<|S.qu (Z.bW 3 av U U U)<|S.qu (Z.call U U (λH=>hgt H))<|Q.mv U<|S.qu (Z.ex U U)<|S.qu (Z.ex U U)<|Q.fa jW U<|S.s<|D.st 1 oo U U U U U U U U λ_=>Q.nt<|Q.rg<|Q.fa jW U<|Q.lc 1 oo U U U<|Q.nt<|S.cF U U<|UW.skip<|UQ.then<|S.sq<|UW.block<|Q.rg<|Q.mv U<|S.qu (Z.oZ U)<|Q.fa jh U<|Q.lc 0 oo U U U<|S.qu (Z.not U)<|Q.as U<|Q.nt<|S.cT U U<|Q.rg<|S.qu (Z.bd [] wh U U U U U U)<|S.s<|D.st 2 di U U U U U U U U λ_=>Q.as U<|Q.nt<|UW.ret<|UQ.aI<|UQ.ax<|S.bH (λhd=>gF U (jX (k:=2) hd U U Iw Iy) (bJ U))<|?_
   rfl
  |true=>
   cases hsd with
   |false=>
    rw[hr1 U U]
    refine aF (n:=66) (H0:=H) (I:=[]) Tryz.func15 (by kernel_rfl) U (by rw[Tryz.ntmps15];rfl) .nil<|?_
    refine Q.rg<|S.dd<|D.box U U U λp1=>S.dd<|D.al z28 U U U λp2=>Q.as U<|Q.nt<|Q.rg<|S.qu (Z.bW 1 av U U U)<|S.qu (Z.bd [0,5] Uq U U U U U U)<|S.dd<|D.box U U U λp8=>Q.as U<|Q.nt<|Q.rg<|Q.mv U<|S.dd<|D.co (.cons 0 U .nil) U U (λG hD=>hs1 _ G hD)<|?_
    rintro _ _ ⟨rfl,rfl⟩
    refine Q.mv U<|S.dd<|D.co (.cons 0 U .nil) U U (λG hD=>hs2 _ G hD)<|?_
    rintro _ _ ⟨rfl,rfl⟩
    refine Q.mv U<|S.dd<|D.co (.cons 0 U .nil) U U (λG hD=>hs3 _ G hD)<|?_
    rintro _ _ ⟨rfl,rfl⟩
    refine Q.mv U<|S.dd<|D.co (.cons 0 U .nil) U U (λG hD=>hs4 _ G hD)<|?_
    rintro _ _ ⟨rfl,rfl⟩
    refine Q.mv U<|S.dd<|D.co (.cons 0 U .nil) U U (λG hD=>hs5 _ G hD)<|?_
    rintro _ _ ⟨rfl,rfl⟩
    refine Q.mv U<|S.dd<|D.co (.cons 0 U .nil) U U (λG hD=>hs6 _ G hD)<|?_
    rintro _ _ ⟨rfl,rfl⟩
    refine Q.mv U<|S.dd<|D.co (.cons 0 U .nil) U U (λG hD=>hs7 _ G hD)<|?_
    rintro _ _ ⟨rfl,rfl⟩
    refine Q.mv U<|S.dd<|D.co (.cons 0 U .nil) U U (λG hD=>hs8 _ G hD)<|?_
    rintro _ _ ⟨rfl,rfl⟩
    refine S.qu (Z.bd [1,4,5,6,7,8,9,10] wh U U U U U U)<|S.dd<|D.al z28 U U U λp5=>S.s<|D.st 0 di U U U U U U U U λ_=>Q.nt<|Q.rg<|Q.mv U<|S.dd<|D.co (.cons 1 U .nil) U U (λG hD=>hs9 _ G hD)<|?_
    rintro _ _ ⟨rfl,rfl⟩
    refine Q.nt<|S.sq<|Q.rg<|S.qu (Z.bW 3 av U U U)<|S.qu (Z.call U U (λH=>hgt H))<|Q.mv U<|S.qu (Z.ex U U)<|S.qu (Z.ex U U)<|Q.fa jW U<|S.s<|D.st 1 oo U U U U U U U U λ_=>Q.nt<|Q.rg<|Q.fa jW U<|Q.lc 1 oo U U U<|Q.nt<|S.cF U U<|UW.skip<|UQ.then<|S.sq<|UW.block<|Q.rg<|Q.mv U<|S.qu (Z.oZ U)<|Q.fa jh U<|Q.lc 0 oo U U U<|S.qu (Z.not U)<|Q.as U<|Q.nt<|S.cF U U<|Q.rg<|S.qu (Z.bW 3 av U U U)<|S.qu (Z.call U U (λH=>hdp H))<|Q.bi U U U<|Q.as U<|Q.nt<|S.cF U (decide_eq_false (by omega))<|Q.rg<|S.qu (Z.bW 3 av U U U)<|S.qu (Z.bK U U (λ_ hS=>hpr _ (hG.mono hS)))<|S.qu (Z.wm Tryz.underlying9 U)<|Q.bi U U U<|Q.as U<|Q.nt<|S.cF U (decide_eq_false (by omega))<|Q.rg<|S.qu (Z.bW 3 av U U U)<|S.qu (Z.bK U U (λ_ hS=>hhs _ (hG.mono hS)))<|?_
    refine S.qu (Z.not U)<|Q.as U<|Q.nt<|S.cT U U<|Q.rg<|S.qu (Z.bd [] wh U U U U U U)<|S.s<|D.st 2 di U U U U U U U U λ_=>Q.as U<|Q.nt<|UW.ret<|UQ.aI<|UQ.ax<|S.bH (λhd=>gF U (jX (k:=2) hd U U Iw Iy) (bJ U))<|?_
    rfl
   |true=>
    rw[hr2 U U]
    refine aF (n:=66) (H0:=H) (I:=[]) Tryz.func15 (by kernel_rfl) U (by rw[Tryz.ntmps15];rfl) .nil<|?_
    refine Q.rg<|S.dd<|D.box U U U λp1=>S.dd<|D.al z28 U U U λp2=>Q.as U<|Q.nt<|Q.rg<|S.qu (Z.bW 1 av U U U)<|S.qu (Z.bd [0,5] Uq U U U U U U)<|S.dd<|D.box U U U λp8=>Q.as U<|Q.nt<|Q.rg<|Q.mv U<|S.dd<|D.co (.cons 0 U .nil) U U (λG hD=>hs1 _ G hD)<|?_
    rintro _ _ ⟨rfl,rfl⟩
    refine Q.mv U<|S.dd<|D.co (.cons 0 U .nil) U U (λG hD=>hs2 _ G hD)<|?_
    rintro _ _ ⟨rfl,rfl⟩
    refine Q.mv U<|S.dd<|D.co (.cons 0 U .nil) U U (λG hD=>hs3 _ G hD)<|?_
    rintro _ _ ⟨rfl,rfl⟩
    refine Q.mv U<|S.dd<|D.co (.cons 0 U .nil) U U (λG hD=>hs4 _ G hD)<|?_
    rintro _ _ ⟨rfl,rfl⟩
    refine Q.mv U<|S.dd<|D.co (.cons 0 U .nil) U U (λG hD=>hs5 _ G hD)<|?_
    rintro _ _ ⟨rfl,rfl⟩
    refine Q.mv U<|S.dd<|D.co (.cons 0 U .nil) U U (λG hD=>hs6 _ G hD)<|?_
    rintro _ _ ⟨rfl,rfl⟩
    refine Q.mv U<|S.dd<|D.co (.cons 0 U .nil) U U (λG hD=>hs7 _ G hD)<|?_
    rintro _ _ ⟨rfl,rfl⟩
    refine Q.mv U<|S.dd<|D.co (.cons 0 U .nil) U U (λG hD=>hs8 _ G hD)<|?_
    rintro _ _ ⟨rfl,rfl⟩
    refine S.qu (Z.bd [1,4,5,6,7,8,9,10] wh U U U U U U)<|S.dd<|D.al z28 U U U λp5=>S.s<|D.st 0 di U U U U U U U U λ_=>Q.nt<|Q.rg<|Q.mv U<|S.dd<|D.co (.cons 1 U .nil) U U (λG hD=>hs9 _ G hD)<|?_
    rintro _ _ ⟨rfl,rfl⟩
    refine Q.nt<|S.sq<|Q.rg<|S.qu (Z.bW 3 av U U U)<|S.qu (Z.call U U (λH=>hgt H))<|Q.mv U<|S.qu (Z.ex U U)<|S.qu (Z.ex U U)<|Q.fa jW U<|S.s<|D.st 1 oo U U U U U U U U λ_=>Q.nt<|Q.rg<|Q.fa jW U<|Q.lc 1 oo U U U<|Q.nt<|S.cF U U<|UW.skip<|UQ.then<|S.sq<|UW.block<|Q.rg<|Q.mv U<|S.qu (Z.oZ U)<|Q.fa jh U<|Q.lc 0 oo U U U<|S.qu (Z.not U)<|Q.as U<|Q.nt<|S.cF U U<|Q.rg<|S.qu (Z.bW 3 av U U U)<|S.qu (Z.call U U (λH=>hdp H))<|Q.bi U U U<|Q.as U<|Q.nt<|S.cF U (decide_eq_false (by omega))<|Q.rg<|S.qu (Z.bW 3 av U U U)<|S.qu (Z.bK U U (λ_ hS=>hpr _ (hG.mono hS)))<|S.qu (Z.wm Tryz.underlying9 U)<|Q.bi U U U<|Q.as U<|Q.nt<|S.cF U (decide_eq_false (by omega))<|Q.rg<|S.qu (Z.bW 3 av U U U)<|S.qu (Z.bK U U (λ_ hS=>hhs _ (hG.mono hS)))<|?_
    refine S.qu (Z.not U)<|Q.as U<|Q.nt<|S.cF U U<|UW.skip<|UQ.aB<|UQ.then<|Q.rg<|S.qu (Z.bW 3 av U U U)<|S.qu (Z.bK U U (λ_ hS=>hid _ (hG.mono hS)))<|Q.fa su U<|S.s<|D.st 1 dW U U U U U U U U λ_=>Q.nt<|Q.rg<|S.qu (Z.bW 1 di U U U)<|S.s<|D.st 2 di U U U U U U U U λ_=>Q.as U<|Q.nt<|UW.ret<|S.bH (λhd=>gF U (jX (k:=2) hd U U Iw Iy) (bJ U))<|?_
    rfl
theorem Ab(a b:EV)(ha:a.prev.length<=1000)(hb:a.bL.length<=1000)(hc:Fits a.body)(H:Hp):au Tryz.prog 32 [.agg (gZ a),.agg (gZ b)] H (bB H (.v (.bool (Hy a b)))):=by
 have h1:∀H,au Tryz.prog 80 [strs a.prev,strs b.prev] H (bB H (.v (.bool (mh uF a.prev b.prev)))):=λH=>zo _ _ (by omega) H
 have h2:∀H,au Tryz.prog 80 [strs a.bL,strs b.bL] H (bB H (.v (.bool (mh uF a.bL b.bL)))):=λH=>zo _ _ (by omega) H
 have h3:∀H,au Tryz.prog 81 [.agg (aC a.body),.agg (aC b.body)] H (bB H (.v (.bool (gV a.body b.body)))):=λH=>IQ _ hc _ H
 unfold Hy
 obtain⟨i1,t1,k1,s1,u1,r1,p1,a1,d1,m1,b1⟩:=a
 obtain⟨i2,t2,k2,s2,u2,r2,p2,a2,d2,m2,b2⟩:=b
 simp only at*
 generalize mh uF p1 p2=e1 at*
 generalize mh uF a1 a2=e2 at*
 generalize gV b1 b2=e3 at*
 obtain⟨x1,x2,x3,x4,x5⟩:=b1
 obtain⟨y1,y2,y3,y4,y5⟩:=b2
 refine aF (n:=82) (H0:=H) (I:=[]) Tryz.func32 (by kernel_rfl) U (by rw[Tryz.ntmps32];rfl) .nil<|?_
 focus
  refine Q.rg<|S.dd<|D.box U U U λp2=>S.dd<|D.box U U U λp3=>Q.as U<|Q.nt<|Q.rg<|Q.fa su U<|Q.lc 1 dW U U U<|Q.fa su U<|Q.lc 0 dW U U U<|S.qu (Z.bs U U U)<|Q.mv U<|?_
  refine S.tE 11 (λvY=>?_) (λvY=>?_)
  refine Q.on (Z.fa qW U)<|Q.on (Z.dM 1 dW U U U)<|Q.on (Z.fa qW U)<|Q.on (Z.dM 0 dW U U U)<|Q.on (Z.bs U U U)<|Q.pk U U<|Q.mv U<|?_
  refine S.tE 18 (λhc18=>?_) (λhc18=>?_)
  refine Q.on (Z.fa sD U)<|Q.on (Z.dM 1 dW U U U)<|Q.on (Z.fa sD U)<|Q.on (Z.dM 0 dW U U U)<|Q.on (Z.bs U U U)<|Q.pk U U<|Q.mv U<|?_
  refine S.tE 25 (λhc25=>?_) (λhc25=>?_)
  refine Q.on (Z.fa jW U)<|Q.on (Z.dM 1 oo U U U)<|Q.on (Z.fa jW U)<|Q.on (Z.dM 0 oo U U U)<|Q.on (Z.beq Tryz.underlying4 U U)<|Q.pk U U<|Q.mv U<|?_
  refine S.tE 32 (λhc32=>?_) (λhc32=>?_)
  refine Q.on (Z.fa Hz U)<|Q.on (Z.dM 1 dW U U U)<|Q.on (Z.fa Hz U)<|Q.on (Z.dM 0 dW U U U)<|Q.on (Z.bs U U U)<|Q.pk U U<|Q.mv U<|?_
  refine S.tE 39 (λhc39=>?_) (λhc39=>?_)
  refine Q.on (Z.fa HV U)<|Q.on (Z.dM 1 dW U U U)<|Q.on (Z.fa HV U)<|Q.on (Z.dM 0 dW U U U)<|Q.on (Z.bs U U U)<|Q.pk U U<|Q.as U<|Q.nt<|Q.rg<|Q.mv U<|Q.mv U<|?_
  refine S.tE 47 (λhc47=>?_) (λhc47=>?_)
  refine Q.on (Z.fa mX U)<|Q.on (Z.dM 1 lg U U U)<|Q.on (Z.fa mX U)<|Q.on (Z.dM 0 lg U U U)<|Q.on (Z.bi U U U)<|Q.pk U U<|Q.mv U<|?_
  refine S.tE 54 (λhc54=>?_) (λhc54=>?_)
  refine Q.on (Z.fa mY U)<|Q.on (Z.dM 1 lg U U U)<|Q.on (Z.fa mY U)<|Q.on (Z.dM 0 lg U U U)<|Q.on (Z.bi U U U)<|Q.pk U U<|Q.mv U<|?_
  refine S.tE 61 (λhc61=>?_) (λhc61=>?_)
  refine Q.on (Z.fa oH U)<|Q.on (Z.dM 1 dB U U U)<|Q.on (Z.fa oH U)<|Q.on (Z.dM 0 dB U U U)<|Q.on (Z.call U U (λH=>h1 H))<|Q.pk U U<|Q.mv U<|?_
  refine S.tB 68 (λGG=>?_) (λGG=>?_)
  refine Q.on (Z.fa o5 U)<|Q.on (Z.dM 1 dB U U U)<|Q.on (Z.fa o5 U)<|Q.on (Z.dM 0 dB U U U)<|Q.on (Z.call U U (λH=>h2 H))<|Q.pk U U<|Q.mv U<|?_
  refine S.tB 75 (λFE=>?_) (λFE=>?_)
  refine Q.on (Z.fa vG U)<|Q.on (Z.SN 1 av U U U)<|Q.on (Z.fa vG U)<|Q.on (Z.SN 0 av U U U)<|Q.on (Z.call U U (λH=>h3 H))<|Q.pk U U<|Q.as U<|Q.nt<|UW.ret<|S.bH (λ_=>ak U U)<|?_
  rotate_left
  refine Q.of<|Q.of<|Q.of<|Q.of<|Q.of<|Q.pk U U<|Q.as U<|Q.nt<|UW.ret<|S.bH (λ_=>ak U U)<|?_
  rotate_left
  refine Q.of<|Q.of<|Q.of<|Q.of<|Q.of<|Q.pk U U<|Q.mv U<|Q.of<|Q.of<|Q.of<|Q.of<|Q.of<|Q.pk U U<|Q.as U<|Q.nt<|UW.ret<|S.bH (λ_=>ak U U)<|?_
  rotate_left
  refine Q.of<|Q.of<|Q.of<|Q.of<|Q.of<|Q.pk U U<|Q.mv U<|Q.of<|Q.of<|Q.of<|Q.of<|Q.of<|Q.pk U U<|Q.mv U<|Q.of<|Q.of<|Q.of<|Q.of<|Q.of<|Q.pk U U<|Q.as U<|Q.nt<|UW.ret<|S.bH (λ_=>ak U U)<|?_
  rotate_left
  refine Q.of<|Q.of<|Q.of<|Q.of<|Q.of<|Q.pk U U<|Q.mv U<|Q.of<|Q.of<|Q.of<|Q.of<|Q.of<|Q.pk U U<|Q.mv U<|Q.of<|Q.of<|Q.of<|Q.of<|Q.of<|Q.pk U U<|Q.mv U<|Q.of<|Q.of<|Q.of<|Q.of<|Q.of<|Q.pk U U<|Q.as U<|Q.nt<|UW.ret<|S.bH (λ_=>ak U U)<|?_
  rotate_left
  refine Q.of<|Q.of<|Q.of<|Q.of<|Q.of<|Q.pk U U<|Q.mv U<|Q.of<|Q.of<|Q.of<|Q.of<|Q.of<|Q.pk U U<|Q.mv U<|Q.of<|Q.of<|Q.of<|Q.of<|Q.of<|Q.pk U U<|Q.mv U<|Q.of<|Q.of<|Q.of<|Q.of<|Q.of<|Q.pk U U<|Q.mv U<|Q.of<|Q.of<|Q.of<|Q.of<|Q.of<|Q.pk U U<|Q.as U<|Q.nt<|UW.ret<|S.bH (λ_=>ak U U)<|?_
  rotate_left
  refine Q.of<|Q.of<|Q.of<|Q.of<|Q.of<|Q.pk U U<|Q.as U<|Q.nt<|Q.rg<|Q.mv U<|Q.mv U<|Q.of<|Q.of<|Q.of<|Q.of<|Q.of<|Q.pk U U<|Q.mv U<|Q.of<|Q.of<|Q.of<|Q.of<|Q.of<|Q.pk U U<|Q.mv U<|Q.of<|Q.of<|Q.of<|Q.of<|Q.of<|Q.pk U U<|Q.mv U<|Q.of<|Q.of<|Q.of<|Q.of<|Q.of<|Q.pk U U<|Q.mv U<|Q.of<|Q.of<|?_
  refine Q.of<|Q.of<|Q.of<|Q.pk U U<|Q.as U<|Q.nt<|UW.ret<|S.bH (λ_=>ak U U)<|?_
  rotate_left
  refine Q.of<|Q.of<|Q.of<|Q.of<|Q.of<|Q.pk U U<|Q.mv U<|Q.of<|Q.of<|Q.of<|Q.of<|Q.of<|Q.pk U U<|Q.as U<|Q.nt<|Q.rg<|Q.mv U<|Q.mv U<|Q.of<|Q.of<|Q.of<|Q.of<|Q.of<|Q.pk U U<|Q.mv U<|Q.of<|Q.of<|Q.of<|Q.of<|Q.of<|Q.pk U U<|Q.mv U<|Q.of<|Q.of<|Q.of<|Q.of<|Q.of<|Q.pk U U<|Q.mv U<|Q.of<|Q.of<|?_
  refine Q.of<|Q.of<|Q.of<|Q.pk U U<|Q.mv U<|Q.of<|Q.of<|Q.of<|Q.of<|Q.of<|Q.pk U U<|Q.as U<|Q.nt<|UW.ret<|S.bH (λ_=>ak U U)<|?_
  rotate_left
  refine Q.of<|Q.of<|Q.of<|Q.of<|Q.of<|Q.pk U U<|Q.mv U<|Q.of<|Q.of<|Q.of<|Q.of<|Q.of<|Q.pk U U<|Q.mv U<|Q.of<|Q.of<|Q.of<|Q.of<|Q.of<|Q.pk U U<|Q.as U<|Q.nt<|Q.rg<|Q.mv U<|Q.mv U<|Q.of<|Q.of<|Q.of<|Q.of<|Q.of<|Q.pk U U<|Q.mv U<|Q.of<|Q.of<|Q.of<|Q.of<|Q.of<|Q.pk U U<|Q.mv U<|Q.of<|Q.of<|?_
  refine Q.of<|Q.of<|Q.of<|Q.pk U U<|Q.mv U<|Q.of<|Q.of<|Q.of<|Q.of<|Q.of<|Q.pk U U<|Q.mv U<|Q.of<|Q.of<|Q.of<|Q.of<|Q.of<|Q.pk U U<|Q.as U<|Q.nt<|UW.ret<|S.bH (λ_=>ak U U)<|?_
  rotate_left
  refine Q.of<|Q.of<|Q.of<|Q.of<|Q.of<|Q.pk U U<|Q.mv U<|Q.of<|Q.of<|Q.of<|Q.of<|Q.of<|Q.pk U U<|Q.mv U<|Q.of<|Q.of<|Q.of<|Q.of<|Q.of<|Q.pk U U<|Q.mv U<|Q.of<|Q.of<|Q.of<|Q.of<|Q.of<|Q.pk U U<|Q.as U<|Q.nt<|Q.rg<|Q.mv U<|Q.mv U<|Q.of<|Q.of<|Q.of<|Q.of<|Q.of<|Q.pk U U<|Q.mv U<|Q.of<|Q.of<|?_
  refine Q.of<|Q.of<|Q.of<|Q.pk U U<|Q.mv U<|Q.of<|Q.of<|Q.of<|Q.of<|Q.of<|Q.pk U U<|Q.mv U<|Q.of<|Q.of<|Q.of<|Q.of<|Q.of<|Q.pk U U<|Q.mv U<|Q.of<|Q.of<|Q.of<|Q.of<|Q.of<|Q.pk U U<|Q.as U<|Q.nt<|UW.ret<|S.bH (λ_=>ak U U)<|?_
  rotate_left
  refine Q.of<|Q.of<|Q.of<|Q.of<|Q.of<|Q.pk U U<|Q.mv U<|Q.of<|Q.of<|Q.of<|Q.of<|Q.of<|Q.pk U U<|Q.mv U<|Q.of<|Q.of<|Q.of<|Q.of<|Q.of<|Q.pk U U<|Q.mv U<|Q.of<|Q.of<|Q.of<|Q.of<|Q.of<|Q.pk U U<|Q.mv U<|Q.of<|Q.of<|Q.of<|Q.of<|Q.of<|Q.pk U U<|Q.as U<|Q.nt<|Q.rg<|Q.mv U<|Q.mv U<|Q.of<|Q.of<|?_
  refine Q.of<|Q.of<|Q.of<|Q.pk U U<|Q.mv U<|Q.of<|Q.of<|Q.of<|Q.of<|Q.of<|Q.pk U U<|Q.mv U<|Q.of<|Q.of<|Q.of<|Q.of<|Q.of<|Q.pk U U<|Q.mv U<|Q.of<|Q.of<|Q.of<|Q.of<|Q.of<|Q.pk U U<|Q.mv U<|Q.of<|Q.of<|Q.of<|Q.of<|Q.of<|Q.pk U U<|Q.as U<|Q.nt<|UW.ret<|S.bH (λ_=>ak U U)<|?_
  rotate_left
 all_goals (refine congrArg (λb=>AV.v (Value.bool b)) ?_;clear h1 h2 h3 ha hb hc;simp_all)
theorem Mg(l:List ByteArray)(hl:l.length<=1000000)(H:Hp):
 au Tryz.prog 108 [strs l,.iF 76 []] H (JY H 26 5 (bu (l.map dz))):=by
 refine aF (n:=22) (H0:=H) (I:=[]) Tryz.func108 (by kernel_rfl) U (by rw[Tryz.ntmps108];rfl) .nil<|?_
 repeat (with_reducible first|refine UW.seq ?_|refine UW.block ?_|refine UQ.then ?_|refine UQ.aB ?_|refine UW.skip ?_|refine UW.exit ?_|refine UQ.pass ?_|refine UQ.here ?_|refine UQ.out (by decide) ?_|refine UW.ret ?_|refine UQ.ax ?_|refine UQ.aI ?_|refine UW.region ?_)
 refine Q.as U<|US.nil<|?_
 repeat (with_reducible first|refine UW.seq ?_|refine UW.block ?_|refine UQ.then ?_|refine UQ.aB ?_|refine UW.skip ?_|refine UW.exit ?_|refine UQ.pass ?_|refine UQ.here ?_|refine UQ.out (by decide) ?_|refine UW.ret ?_|refine UQ.ax ?_|refine UQ.aI ?_|refine UW.region ?_)
 refine Q.as U<|US.kZ 5 26 5 (by decide) U λi0=>US.nil<|?_
 repeat (with_reducible first|refine UW.seq ?_|refine UW.block ?_|refine UQ.then ?_|refine UQ.aB ?_|refine UW.skip ?_|refine UW.exit ?_|refine UQ.pass ?_|refine UQ.here ?_|refine UQ.out (by decide) ?_|refine UW.ret ?_|refine UQ.ax ?_|refine UQ.aI ?_|refine UW.region ?_)
 refine Q.mv U<|?_
 first|refine US.gq U (by decide) U U aZ U ?_|refine US.iQ U (by decide) U U aZ U ?_|refine US.len_nil U (by decide) U U aZ U ?_
 refine Q.mv U<|US.nil<|?_
 repeat (with_reducible first|refine UW.seq ?_|refine UW.block ?_|refine UQ.then ?_|refine UQ.aB ?_|refine UW.skip ?_|refine UW.exit ?_|refine UQ.pass ?_|refine UQ.here ?_|refine UQ.out (by decide) ?_|refine UW.ret ?_|refine UQ.ax ?_|refine UQ.aI ?_|refine UW.region ?_)
 refine UW.loop (λp:Nat×Nat=>[(10,.v (.int .i64 (p.1:Int))),(5,.own p.2 0 p.1 5),(8,strs l),(9,.v (.int .i64 ((l.map encS).length:Int))),(1,.iF 76 [])]) (λp=>[(p.2,.row 26 5 ((bu (l.map dz)).take p.1))]) (λp=>p.1<=l.length) (λp=>l.length-p.1) (0,i0) (Nat.zero_le _) ⟨rfl,rfl,rfl,rfl,rfl,trivial⟩ (.refl _)<|?_
 rintro⟨k,id⟩ hk
 simp only at hk
 have hll:(bu (l.map dz)).length=l.length:=by rw[aS,List.length_map]
 have yE:(l.map encS).length=l.length:=List.length_map ..
 repeat (with_reducible first|refine UW.seq ?_|refine UW.block ?_|refine UQ.then ?_|refine UQ.aB ?_|refine UW.skip ?_|refine UW.exit ?_|refine UQ.pass ?_|refine UQ.here ?_|refine UQ.out (by decide) ?_|refine UW.ret ?_|refine UQ.ax ?_|refine UQ.aI ?_|refine UW.region ?_)
 refine Q.bi U U U<|US.nil<|?_
 repeat (with_reducible first|refine UW.seq ?_|refine UW.block ?_|refine UQ.then ?_|refine UQ.aB ?_|refine UW.skip ?_|refine UW.exit ?_|refine UQ.pass ?_|refine UQ.here ?_|refine UQ.out (by decide) ?_|refine UW.ret ?_|refine UQ.ax ?_|refine UQ.aI ?_|refine UW.region ?_)
 refine UW.cond U (λh=>?_) (λh=>?_)
 ·have h:=of_decide_eq_true h
  have hlt:k<l.length:=by omega
  repeat (with_reducible first|refine UW.seq ?_|refine UW.block ?_|refine UQ.then ?_|refine UQ.aB ?_|refine UW.skip ?_|refine UW.exit ?_|refine UQ.pass ?_|refine UQ.here ?_|refine UQ.out (by decide) ?_|refine UW.ret ?_|refine UQ.ax ?_|refine UQ.aI ?_|refine UW.region ?_)
  refine US.bM U (by decide) U U aZ U U (by omega) (eY l k hlt) U<|?_
  first|refine US.aJ U (by decide) U U dW U (k:=0) U U ?_|refine US.aJ U (by decide) U U dW U (k:=1) U U ?_|refine US.aJ U (by decide) U U dW U (k:=2) U U ?_|refine US.aJ U (by decide) U U dW U (k:=3) U U ?_|refine US.aJ U (by decide) U U dW U (k:=4) U U ?_|refine US.aJ U (by decide) U U dW U (k:=5) U U ?_|refine US.bI U (by decide) U U U dW ?_
  refine Q.as U<|US.nil<|?_
  repeat (with_reducible first|refine UW.seq ?_|refine UW.block ?_|refine UQ.then ?_|refine UQ.aB ?_|refine UW.skip ?_|refine UW.exit ?_|refine UQ.pass ?_|refine UQ.here ?_|refine UQ.out (by decide) ?_|refine UW.ret ?_|refine UQ.ax ?_|refine UQ.aI ?_|refine UW.region ?_)
  refine Q.mv U<|Q.mv U<|Q.mv U<|US.dL U (by decide) U U U U (λ_=>qA _ _)<|US.qh U (by decide) U U jw (by decide) U U U (by first|exact bz U|(intro cs h;cases List.mem_singleton.1 h;exact⟨by first|rfl|exact az _,by first|rfl|exact Y _⟩)|(simp[encS,encI,aT,Value.oneCell'];done))<|?_
  refine US.iI U (by decide) U U jw U (k:=0) U (by rw[List.length_take];omega) U (uo.sl (λcs h=>by cases List.mem_singleton.1 h;exact Y _)) (by first|omega|(simp;omega)) (Eq.trans (by rw[List.take_take,Nat.min_self]) (PD l k hlt)) λp19=>?_
  refine Q.as U<|US.nil<|?_
  repeat (with_reducible first|refine UW.seq ?_|refine UW.block ?_|refine UQ.then ?_|refine UQ.aB ?_|refine UW.skip ?_|refine UW.exit ?_|refine UQ.pass ?_|refine UQ.here ?_|refine UQ.out (by decide) ?_|refine UW.ret ?_|refine UQ.ax ?_|refine UQ.aI ?_|refine UW.region ?_)
  refine US.add U (by decide) U U U U (IntWalk.i64_in _ (by omega))<|Q.mv U<|?_
  exact US.round (a':=(k+1,p19)) (by simp only;omega) (by simp only;omega) ⟨rfl,rfl,rfl,rfl,rfl,trivial⟩ (by simp)
 ·have h:=of_decide_eq_false h
  have hkl:k=l.length:=by simp only at h;omega
  repeat (with_reducible first|refine UW.seq ?_|refine UW.block ?_|refine UQ.then ?_|refine UQ.aB ?_|refine UW.skip ?_|refine UW.exit ?_|refine UQ.pass ?_|refine UQ.here ?_|refine UQ.out (by decide) ?_|refine UW.ret ?_|refine UQ.ax ?_|refine UQ.aI ?_|refine UW.region ?_)
  refine Q.mv U<|Q.as U<|US.nil<|?_
  repeat (with_reducible first|refine UW.seq ?_|refine UW.block ?_|refine UQ.then ?_|refine UQ.aB ?_|refine UW.skip ?_|refine UW.exit ?_|refine UQ.pass ?_|refine UQ.here ?_|refine UQ.out (by decide) ?_|refine UW.ret ?_|refine UQ.ax ?_|refine UQ.aI ?_|refine UW.region ?_)
  refine bR [(id,_)] (λ_=>ak U U) (.refl _) λhd=>?_
  exact⟨_,hd,rfl,id,by rw[hll,hkl],by rw[hkl,<-hll,List.take_length]⟩
theorem Ib(l:List ByteArray)(hl:l.length<=1000000)(H:Hp):au Tryz.prog 74 [strs l] H (bB H (.agg (aC (fH l)))):=by
 have hll:(bu (l.map dz)).length=l.length:=by rw[aS,List.length_map]
 refine aF (n:=6) (H0:=H) (I:=[]) Tryz.func74 (by kernel_rfl) U (by rw[Tryz.ntmps74];rfl) .nil<|?_
 repeat (with_reducible first|refine UW.seq ?_|refine UW.block ?_|refine UQ.then ?_|refine UQ.aB ?_|refine UW.skip ?_|refine UW.exit ?_|refine UQ.pass ?_|refine UQ.here ?_|refine UQ.out (by decide) ?_|refine UW.ret ?_|refine UQ.ax ?_|refine UQ.aI ?_|refine UW.region ?_)
 refine US.oK U (by decide) U U z26 U U U U λp2=>US.nil<|?_
 repeat (with_reducible first|refine UW.seq ?_|refine UW.block ?_|refine UQ.then ?_|refine UQ.aB ?_|refine UW.skip ?_|refine UW.exit ?_|refine UQ.pass ?_|refine UQ.here ?_|refine UQ.out (by decide) ?_|refine UW.ret ?_|refine UQ.ax ?_|refine UQ.aI ?_|refine UW.region ?_)
 refine Q.mv U<|?_
 refine US.mE U (by decide) U U U U (λ_=>Mg l hl _) ?_;rintro _ _ ⟨p4,rfl,rfl⟩
 refine US.fV 4 (k:=0) U U (by omega) (rs:=bu (l.map dz)) (by rw[List.drop_zero,List.take_length])<|?_
 refine US.Ca [0,4] U (by decide) U U gU U U U U U U U U<|?_
 first|refine US.dw U U U av U (k:=0) U (by first|rfl|exact Y _|(simp;done)) U U (by first|rfl|exact az _|(simp[encS,encI,aT,Value.oneCell'];done)) (by first|rfl|exact Y _|(simp;done)) U ?_|refine US.dw U U U av U (k:=1) U (by first|rfl|exact Y _|(simp;done)) U U (by first|rfl|exact az _|(simp[encS,encI,aT,Value.oneCell'];done)) (by first|rfl|exact Y _|(simp;done)) U ?_|refine US.dw U U U av U (k:=2) U (by first|rfl|exact Y _|(simp;done)) U U (by first|rfl|exact az _|(simp[encS,encI,aT,Value.oneCell'];done)) (by first|rfl|exact Y _|(simp;done)) U ?_|refine US.dw U U U av U (k:=3) U (by first|rfl|exact Y _|(simp;done)) U U (by first|rfl|exact az _|(simp[encS,encI,aT,Value.oneCell'];done)) (by first|rfl|exact Y _|(simp;done)) U ?_|refine US.dw U U U av U (k:=4) U (by first|rfl|exact Y _|(simp;done)) U U (by first|rfl|exact az _|(simp[encS,encI,aT,Value.oneCell'];done)) (by first|rfl|exact Y _|(simp;done)) U ?_|refine US.dw U U U av U (k:=5) U (by first|rfl|exact Y _|(simp;done)) U U (by first|rfl|exact az _|(simp[encS,encI,aT,Value.oneCell'];done)) (by first|rfl|exact Y _|(simp;done)) U ?_|refine US.gu U U U av U (k:=0) U U U (by first|rfl|exact az _|(simp[encS,encI,aT,Value.oneCell'];done)) (by first|rfl|exact Y _|(simp;done)) U U ?_|refine US.gu U U U av U (k:=1) U U U (by first|rfl|exact az _|(simp[encS,encI,aT,Value.oneCell'];done)) (by first|rfl|exact Y _|(simp;done)) U U ?_|refine US.gu U U U av U (k:=2) U U U (by first|rfl|exact az _|(simp[encS,encI,aT,Value.oneCell'];done)) (by first|rfl|exact Y _|(simp;done)) U U ?_|refine US.gu U U U av U (k:=3) U U U (by first|rfl|exact az _|(simp[encS,encI,aT,Value.oneCell'];done)) (by first|rfl|exact Y _|(simp;done)) U U ?_|refine US.gu U U U av U (k:=4) U U U (by first|rfl|exact az _|(simp[encS,encI,aT,Value.oneCell'];done)) (by first|rfl|exact Y _|(simp;done)) U U ?_|refine US.gu U U U av U (k:=5) U U U (by first|rfl|exact az _|(simp[encS,encI,aT,Value.oneCell'];done)) (by first|rfl|exact Y _|(simp;done)) U U ?_
 refine US.nil<|?_
 repeat (with_reducible first|refine UW.seq ?_|refine UW.block ?_|refine UQ.then ?_|refine UQ.aB ?_|refine UW.skip ?_|refine UW.exit ?_|refine UQ.pass ?_|refine UQ.here ?_|refine UQ.out (by decide) ?_|refine UW.ret ?_|refine UQ.ax ?_|refine UQ.aI ?_|refine UW.region ?_)
 exact bR [] (λhd=>aX (k:=0) hd U U U gQ gT) (by simp) λhd=>⟨rfl,rfl⟩
theorem OM(n:Int)(H:Hp):au Tryz.prog 75 [.v (.int .i64 n)] H (bB H (.agg (aC (fu n)))):=by
 refine aF (n:=5) (H0:=H) (I:=[]) Tryz.func75 (by kernel_rfl) U (by rw[Tryz.ntmps75];rfl) .nil<|?_
 repeat (with_reducible first|refine UW.seq ?_|refine UW.block ?_|refine UQ.then ?_|refine UQ.aB ?_|refine UW.skip ?_|refine UW.exit ?_|refine UQ.pass ?_|refine UQ.here ?_|refine UQ.out (by decide) ?_|refine UW.ret ?_|refine UQ.ax ?_|refine UQ.aI ?_|refine UW.region ?_)
 refine US.oK U (by decide) U U z26 U U U U λp2=>US.nil<|?_
 repeat (with_reducible first|refine UW.seq ?_|refine UW.block ?_|refine UQ.then ?_|refine UQ.aB ?_|refine UW.skip ?_|refine UW.exit ?_|refine UQ.pass ?_|refine UQ.here ?_|refine UQ.out (by decide) ?_|refine UW.ret ?_|refine UQ.ax ?_|refine UQ.aI ?_|refine UW.region ?_)
 refine Q.mv U<|US.Ca [0,1] U (by decide) U U gU U U U U U U U U<|?_
 first|refine US.dw U U U av U (k:=0) U (by first|rfl|exact Y _|(simp;done)) U U (by first|rfl|exact az _|(simp[encS,encI,aT,Value.oneCell'];done)) (by first|rfl|exact Y _|(simp;done)) U ?_|refine US.dw U U U av U (k:=1) U (by first|rfl|exact Y _|(simp;done)) U U (by first|rfl|exact az _|(simp[encS,encI,aT,Value.oneCell'];done)) (by first|rfl|exact Y _|(simp;done)) U ?_|refine US.dw U U U av U (k:=2) U (by first|rfl|exact Y _|(simp;done)) U U (by first|rfl|exact az _|(simp[encS,encI,aT,Value.oneCell'];done)) (by first|rfl|exact Y _|(simp;done)) U ?_|refine US.dw U U U av U (k:=3) U (by first|rfl|exact Y _|(simp;done)) U U (by first|rfl|exact az _|(simp[encS,encI,aT,Value.oneCell'];done)) (by first|rfl|exact Y _|(simp;done)) U ?_|refine US.dw U U U av U (k:=4) U (by first|rfl|exact Y _|(simp;done)) U U (by first|rfl|exact az _|(simp[encS,encI,aT,Value.oneCell'];done)) (by first|rfl|exact Y _|(simp;done)) U ?_|refine US.dw U U U av U (k:=5) U (by first|rfl|exact Y _|(simp;done)) U U (by first|rfl|exact az _|(simp[encS,encI,aT,Value.oneCell'];done)) (by first|rfl|exact Y _|(simp;done)) U ?_|refine US.gu U U U av U (k:=0) U U U (by first|rfl|exact az _|(simp[encS,encI,aT,Value.oneCell'];done)) (by first|rfl|exact Y _|(simp;done)) U U ?_|refine US.gu U U U av U (k:=1) U U U (by first|rfl|exact az _|(simp[encS,encI,aT,Value.oneCell'];done)) (by first|rfl|exact Y _|(simp;done)) U U ?_|refine US.gu U U U av U (k:=2) U U U (by first|rfl|exact az _|(simp[encS,encI,aT,Value.oneCell'];done)) (by first|rfl|exact Y _|(simp;done)) U U ?_|refine US.gu U U U av U (k:=3) U U U (by first|rfl|exact az _|(simp[encS,encI,aT,Value.oneCell'];done)) (by first|rfl|exact Y _|(simp;done)) U U ?_|refine US.gu U U U av U (k:=4) U U U (by first|rfl|exact az _|(simp[encS,encI,aT,Value.oneCell'];done)) (by first|rfl|exact Y _|(simp;done)) U U ?_|refine US.gu U U U av U (k:=5) U U U (by first|rfl|exact az _|(simp[encS,encI,aT,Value.oneCell'];done)) (by first|rfl|exact Y _|(simp;done)) U U ?_
 refine US.nil<|?_
 repeat (with_reducible first|refine UW.seq ?_|refine UW.block ?_|refine UQ.then ?_|refine UQ.aB ?_|refine UW.skip ?_|refine UW.exit ?_|refine UQ.pass ?_|refine UQ.here ?_|refine UQ.out (by decide) ?_|refine UW.ret ?_|refine UQ.ax ?_|refine UQ.aI ?_|refine UW.region ?_)
 exact bR [] (λhd=>aX (k:=0) hd U U U gQ gT) (by simp) λhd=>⟨rfl,rfl⟩
end Go.Proofs.YtonpfomjoiaacaaGreatDoor
end
