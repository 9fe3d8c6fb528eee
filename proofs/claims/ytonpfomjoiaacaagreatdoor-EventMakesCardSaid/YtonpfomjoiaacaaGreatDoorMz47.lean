/- A part of the proof. -/
import Derived.Test.YtonpfomjoiaacaaGreatDoorMz46
set_option maxRecDepth 100000
set_option maxHeartbeats 4000000
set_option linter.unusedSectionVars false
set_option linter.unusedVariables false
set_option linter.unusedSimpArgs false
section
namespace Go.Proofs.YtonpfomjoiaacaaGreatDoor
open Go Go.fT Go.RowKit
def oo1(v:V):Bool:=true&&(qG v dK 3&&Bi (aI v dK).1.t)
def oo2(v:V):Bool:=oo1 v&&(qG v bZ 3&&nk (aI v bZ).1.t)
def oo3(v:V):Bool:=oo2 v&&(qG v gY 3&&nu (aI v gY).1.t)
def oo4(v:V):Bool:=oo3 v&&(qG v gV 4&&gH (fA (aI v gV).1))
def oo5(v:V):Bool:=oo4 v&&(qG v gK 4&&gH (fA (aI v gK).1))
def oo6(v:V):Bool:=oo5 v&&(qG v eu 2&&decide (0<=(aI v eu).1.n))
def oo7(v:V):Bool:=oo6 v&&(qG v iR 2&&decide (0<=(aI v iR).1.n))
def oo8(v:V):Bool:=oo7 v&&(qG v aQ 5&&true)
def ZM(v:V):Bool:=oo8 v&&(qG v bq 5&&true)
def YX(v:V):Bool:=ZM v&&(qG v dX 3&&decide ((aI v dX).1.t.size<=80))
structure RW(v:V):Prop where
 fits:Fits v
 dep:dh v<=32
 print:(aO v).size<=65536
 pr:Pr v
 Gb:Pr (eZ v)
 prR:Pr (jX v)
 user:(aI v bZ).1.t=⟨#[]⟩\/(aI v bZ).1.t∈wX
 room:(aI v gY).1.t=⟨#[]⟩\/(aI v gY).1.t∈BP
 prev:(∀s∈fA (aI v gV).1,s.size<=1000/\(s.data.toList.all λb=>b.toNat<128)=true)/\(aI v gV).1.vs.length<=1000
 dH:(∀s∈fA (aI v gK).1,s.size<=1000/\(s.data.toList.all λb=>b.toNat<128)=true)/\(aI v gK).1.vs.length<=1000
theorem RQ.rw{v:V}(h:RQ v):RW v:=⟨h.fits,h.dep,h.print,h.pr,h.Gb,h.prR,h.user,h.room,h.prev,h.dH⟩
theorem YY:RW zeroV where
 fits:=mq
 dep:=Int.le_trans (ig _ _ _) (by decide)
 print:=by rw[show(aO zeroV).size=4 by kernel_rfl];decide
 pr:=Qr mq (.leaf (by decide) (by decide))
 Gb:=Qq mq (.leaf (by decide) (by decide))
 prR:=Qr (MB mq (by decide)) (((Wt.leaf (N:=1000) (by decide) (by decide)).red (by decide)).up (by decide))
 user:=.inl U
 room:=.inl U
 prev:=⟨(λs h=>by cases h),by decide⟩
 dH:=⟨(λs h=>by cases h),by decide⟩
theorem ok_oo(v:V):((aI v dX).2=true->SB nk nu gH v=YX v)/\((aI v dX).2=false->SB nk nu gH v=ZM v):=by
 unfold SB YX ZM oo8 oo7 oo6 oo5 oo4 oo3 oo2 oo1
 constructor<;>intro h
 ·rw[h]
  unfold qG
  rw[h]
  simp only[Bool.true_and,Bool.and_true,Bool.not_true,Bool.false_or,Bool.and_assoc]
 ·rw[h]
  simp only[Bool.true_and,Bool.and_true,Bool.not_false,Bool.true_or,Bool.and_assoc]
theorem Ht(v:V)(hq:RW v)(H:Hp)(hG:gU H):au Tryz.prog 15 [.agg (aD v)] H (bz H (.kM [.agg (mZ (qy v).1),.v (.int .u16 (qy v).2)])):=by
 have hv:=hq.fits
 obtain⟨hy,hn⟩:=ok_oo v
 have hr0:SB nk nu gH v=false->qy v=(zeroE,15):=λh=>by unfold qy Ff;rw[if_pos h]
 have hd32:dh v<=32:=hq.dep
 have hp64:(aO v).size<=65536:=hq.print
 have hr1:SB nk nu gH v=true->kE v=false->qy v=(zeroE,17):=λh h2=>by unfold qy Ff;rw[if_neg (by rw[h];decide),if_neg (by omega),if_neg (by omega),if_pos h2]
 have hr2:SB nk nu gH v=true->kE v=true->qy v=({UX v with id:=zW v},0):=λh h2=>by unfold qy Ff;rw[if_neg (by rw[h];decide),if_neg (by omega),if_neg (by omega),if_neg (by rw[h2];decide)]
 unfold UX at hr2
 have hdp:∀H,au Tryz.prog 65 [.agg (aD v)] H (bz H (.v (.int .i64 (dh v)))):=λH=>Sk v hv (by omega) H
 have hpr:∀H,gU H->au Tryz.prog 66 [.agg (aD v)] H (bz H (.v (.string (aO v)))):=λH h=>tJ v hv hq.pr H h
 have hhs:∀H,gU H->au Tryz.prog 67 [.agg (aD v)] H (bz H (.v (.bool (kE v)))):=λH h=>Ml v hv hq.Gb H h
 have hid:∀H,gU H->au Tryz.prog 42 [.agg (aD v)] H (bz H (.v (.string (zW v)))):=λH h=>Qs v hv hq.prR H h
 have hgt:∀H,au Tryz.prog 63 [.agg (aD v),.v (.string dX)] H (bz H (.kM [.agg (aD (aI v dX).1),.v (.bool (aI v dX).2)])):=λH=>qR v hv dX H
 have hs1:∀p G,aM G (nI p v true)->au Tryz.prog 49 [.ptr p 0,.v (.string dK),.v (.int .i64 3),.gN 50 [],.gN 51 []] (aC G (nI p v true)) (λu H'=>∃news,aM G news/\H'=aC G news/\(u=.v (.string (aI v dK).1.t)/\news=nI p v (oo1 v))):=λp G hd=>uf p v hv true dK 3 _ _ _ _ (λH=>qz _ H) (λH=>Kk _ H) G hd
 have hs2:∀p G,aM G (nI p v (oo1 v))->au Tryz.prog 49 [.ptr p 0,.v (.string bZ),.v (.int .i64 3),.gN 50 [],.gN 52 []] (aC G (nI p v (oo1 v))) (λu H'=>∃news,aM G news/\H'=aC G news/\(u=.v (.string (aI v bZ).1.t)/\news=nI p v (oo2 v))):=λp G hd=>uf p v hv (oo1 v) bZ 3 _ _ _ _ (λH=>qz _ H) (λH=>Si _ hq.user H) G hd
 have hs3:∀p G,aM G (nI p v (oo2 v))->au Tryz.prog 49 [.ptr p 0,.v (.string gY),.v (.int .i64 3),.gN 50 [],.gN 53 []] (aC G (nI p v (oo2 v))) (λu H'=>∃news,aM G news/\H'=aC G news/\(u=.v (.string (aI v gY).1.t)/\news=nI p v (oo3 v))):=λp G hd=>uf p v hv (oo2 v) gY 3 _ _ _ _ (λH=>qz _ H) (λH=>Sj _ hq.room H) G hd
 have hs4:∀p G,aM G (nI p v (oo3 v))->au Tryz.prog 54 [.ptr p 0,.v (.string gV),.v (.int .i64 4),.gN 55 [],.gN 56 []] (aC G (nI p v (oo3 v))) (λu H'=>∃news,aM G news/\H'=aC G news/\(u=strs (fA (aI v gV).1)/\news=nI p v (oo4 v))):=λp G hd=>FM p v hv (oo3 v) gV 4 _ _ _ _ (λH=>zR _ (lK hv gV) H) (λH=>zS _ (by unfold fA;rw[List.length_map];exact hq.prev.2) hq.prev.1 H) G hd
 have hs5:∀p G,aM G (nI p v (oo4 v))->au Tryz.prog 54 [.ptr p 0,.v (.string gK),.v (.int .i64 4),.gN 55 [],.gN 56 []] (aC G (nI p v (oo4 v))) (λu H'=>∃news,aM G news/\H'=aC G news/\(u=strs (fA (aI v gK).1)/\news=nI p v (oo5 v))):=λp G hd=>FM p v hv (oo4 v) gK 4 _ _ _ _ (λH=>zR _ (lK hv gK) H) (λH=>zS _ (by unfold fA;rw[List.length_map];exact hq.dH.2) hq.dH.1 H) G hd
 have hs6:∀p G,aM G (nI p v (oo5 v))->au Tryz.prog 57 [.ptr p 0,.v (.string eu),.v (.int .i64 2),.gN 58 [],.gN 59 []] (aC G (nI p v (oo5 v))) (λu H'=>∃news,aM G news/\H'=aC G news/\(u=.v (.int .i64 (aI v eu).1.n)/\news=nI p v (oo6 v))):=λp G hd=>FN p v hv (oo5 v) eu 2 _ _ _ _ (λH=>FJ _ H) (λH=>FL _ H) G hd
 have hs7:∀p G,aM G (nI p v (oo6 v))->au Tryz.prog 57 [.ptr p 0,.v (.string iR),.v (.int .i64 2),.gN 58 [],.gN 59 []] (aC G (nI p v (oo6 v))) (λu H'=>∃news,aM G news/\H'=aC G news/\(u=.v (.int .i64 (aI v iR).1.n)/\news=nI p v (oo7 v))):=λp G hd=>FN p v hv (oo6 v) iR 2 _ _ _ _ (λH=>FJ _ H) (λH=>FL _ H) G hd
 have hs8:∀p G,aM G (nI p v (oo7 v))->au Tryz.prog 60 [.ptr p 0,.v (.string aQ),.v (.int .i64 5),.gN 61 [],.gN 62 []] (aC G (nI p v (oo7 v))) (λu H'=>∃news,aM G news/\H'=aC G news/\(u=.agg (aD (aI v aQ).1)/\news=nI p v (oo8 v))):=λp G hd=>FO p v hv (oo7 v) aQ 5 _ _ _ _ (λH=>BR _ H) (λH=>FK _ H) G hd
 have hs9:∀p G,aM G (nI p v (oo8 v))->au Tryz.prog 60 [.ptr p 0,.v (.string bq),.v (.int .i64 5),.gN 61 [],.gN 62 []] (aC G (nI p v (oo8 v))) (λu H'=>∃news,aM G news/\H'=aC G news/\(u=.agg (aD (aI v bq).1)/\news=nI p v (ZM v))):=λp G hd=>FO p v hv (oo8 v) bq 5 _ _ _ _ (λH=>BR _ H) (λH=>FK _ H) G hd
 have hs10:∀p G,aM G (nI p v (ZM v))->au Tryz.prog 49 [.ptr p 0,.v (.string dX),.v (.int .i64 3),.gN 50 [],.gN 64 []] (aC G (nI p v (ZM v))) (λu H'=>∃news,aM G news/\H'=aC G news/\(u=.v (.string (aI v dX).1.t)/\news=nI p v (YX v))):=λp G hd=>uf p v hv (ZM v) dX 3 _ _ _ _ (λH=>qz _ H) (λH=>Pz _ H) G hd
 generalize oo1 v=x1 at*
 generalize oo2 v=x2 at*
 generalize oo3 v=x3 at*
 generalize oo4 v=x4 at*
 generalize oo5 v=x5 at*
 generalize oo6 v=x6 at*
 generalize oo7 v=x7 at*
 generalize oo8 v=x8 at*
 generalize ZM v=x9 at*
 generalize YX v=x10 at*
 generalize SB nk nu gH v=ok at*
 generalize qy v=res at*
 generalize kE v=hsd at*
 generalize zW v=id at*
 generalize dh v=dp at*
 generalize aO v=pv at*
 generalize (aI v dK).1.t=ty at*
 generalize (aI v bZ).1.t=sd at*
 generalize (aI v gY).1.t=rm at*
 generalize fA (aI v gV).1=pe at*
 generalize fA (aI v gK).1=ae at*
 generalize (aI v eu).1.n=de at*
 generalize (aI v iR).1.n=ti at*
 generalize (aI v aQ).1=bo at*
 generalize (aI v bq).1=ha at*
 generalize (aI v dX).2=is at*
 generalize (aI v dX).1=sk at*
 clear hq hv
 obtain⟨k,n,t,ks,vs⟩:=v
 obtain⟨k1,n1,t1,ks1,vs1⟩:=bo
 obtain⟨k2,n2,t2,ks2,vs2⟩:=sk
 obtain⟨k3,n3,t3,ks3,vs3⟩:=ha
 unfold nI at*
 cases is with
 |true=>
  have hy:=hy U
  subst hy
  clear hn
  cases ok with
  |false=>
   rw[hr0 U]
   refine aF (n:=66) (H0:=H) (I:=[]) Tryz.func15 (by kernel_rfl) U (by rw[Tryz.ntmps15];rfl) .nil ?_
   refine S.sq (S.rg ?_)
   refine S.dd (D.box U U U (λp1=>?_))
   refine S.dd (D.al z28 U U U (λp2=>?_))
   refine S.qu (Z.as U) ?_
   refine US.nil (UQ.then (S.sq (S.rg ?_)))
   refine S.qu (Z.dA 1 av U U U) ?_
   refine S.qu (Z.bd [0,5] Sb U U U U U U) ?_
   refine S.dd (D.box U U U (λp8=>?_))
   refine S.qu (Z.as U) ?_
   refine US.nil (UQ.then (S.sq (S.rg ?_)))
   refine S.qu (Z.mv U) ?_
   refine S.dd (D.co (.cons 0 U .nil) U U (λG hD=>hs1 _ G hD) ?_)
   rintro _ _ ⟨rfl,rfl⟩
   refine S.qu (Z.mv U) ?_
   refine S.dd (D.co (.cons 0 U .nil) U U (λG hD=>hs2 _ G hD) ?_)
   rintro _ _ ⟨rfl,rfl⟩
   refine S.qu (Z.mv U) ?_
   refine S.dd (D.co (.cons 0 U .nil) U U (λG hD=>hs3 _ G hD) ?_)
   rintro _ _ ⟨rfl,rfl⟩
   refine S.qu (Z.mv U) ?_
   refine S.dd (D.co (.cons 0 U .nil) U U (λG hD=>hs4 _ G hD) ?_)
   rintro _ _ ⟨rfl,rfl⟩
   refine S.qu (Z.mv U) ?_
   refine S.dd (D.co (.cons 0 U .nil) U U (λG hD=>hs5 _ G hD) ?_)
   rintro _ _ ⟨rfl,rfl⟩
   refine S.qu (Z.mv U) ?_
   refine S.dd (D.co (.cons 0 U .nil) U U (λG hD=>hs6 _ G hD) ?_)
   rintro _ _ ⟨rfl,rfl⟩
   refine S.qu (Z.mv U) ?_
   refine S.dd (D.co (.cons 0 U .nil) U U (λG hD=>hs7 _ G hD) ?_)
   rintro _ _ ⟨rfl,rfl⟩
   refine S.qu (Z.mv U) ?_
   refine S.dd (D.co (.cons 0 U .nil) U U (λG hD=>hs8 _ G hD) ?_)
   rintro _ _ ⟨rfl,rfl⟩
   refine S.qu (Z.bd [1,4,5,6,7,8,9,10] Ch U U U U U U) ?_
   refine S.dd (D.al z28 U U U (λp5=>?_))
   refine S.s (D.st 0 gy U U U U U U U U (λ_=>?_))
   refine US.nil (UQ.then (S.sq (S.rg ?_)))
   refine S.qu (Z.mv U) ?_
   refine S.dd (D.co (.cons 1 U .nil) U U (λG hD=>hs9 _ G hD) ?_)
   rintro _ _ ⟨rfl,rfl⟩
   refine US.nil (UQ.then (S.sq (S.sq (S.rg ?_))))
   refine S.qu (Z.dA 3 av U U U) ?_
   refine S.qu (Z.call U U (λH=>hgt H)) ?_
   refine S.qu (Z.mv U) ?_
   refine S.qu (Z.ex U U) ?_
   refine S.qu (Z.ex U U) ?_
   refine S.qu (Z.fa kW U) ?_
   refine S.s (D.st 1 oo U U U U U U U U (λ_=>?_))
   refine US.nil (UQ.then (S.sq (S.rg ?_)))
   refine S.qu (Z.fa kW U) ?_
   refine S.qu (Z.di 1 oo U U U) ?_
   refine US.nil (UQ.then ?_)
   refine S.cT U U ?_
   refine S.rg ?_
   refine S.qu (Z.mv U) ?_
   refine S.dd (D.co (.cons 0 U .nil) U U (λG hD=>hs10 _ G hD) ?_)
   rintro _ _ ⟨rfl,rfl⟩
   refine S.qu (Z.fa wZ U) ?_
   refine S.s (D.st 1 ed U U U U U U U U (λ_=>?_))
   refine US.nil (UQ.then (S.sq (UW.block (S.sq (S.rg ?_)))))
   refine S.qu (Z.mv U) ?_
   refine S.qu (Z.nN U) ?_
   refine S.qu (Z.fa iC U) ?_
   refine S.qu (Z.di 0 oo U U U) ?_
   refine S.qu (Z.not U) ?_
   refine S.qu (Z.as U) ?_
   refine US.nil (UQ.then ?_)
   refine S.cT U U ?_
   refine S.sq (S.rg ?_)
   refine S.qu (Z.bd [] Ch U U U U U U) ?_
   refine S.s (D.st 2 gy U U U U U U U U (λ_=>?_))
   refine S.qu (Z.as U) ?_
   refine US.nil (UQ.then (UW.ret (UQ.aH (UQ.ax ?_))))
   refine S.bK (λhd=>fJ U (jv (k:=2) hd U U Gc Gd) (bE U)) ?_
   rfl
  |true=>
   cases hsd with
   |false=>
    rw[hr1 U U]
    refine aF (n:=66) (H0:=H) (I:=[]) Tryz.func15 (by kernel_rfl) U (by rw[Tryz.ntmps15];rfl) .nil ?_
    refine S.sq (S.rg ?_)
    refine S.dd (D.box U U U (λp1=>?_))
    refine S.dd (D.al z28 U U U (λp2=>?_))
    refine S.qu (Z.as U) ?_
    refine US.nil (UQ.then (S.sq (S.rg ?_)))
    refine S.qu (Z.dA 1 av U U U) ?_
    refine S.qu (Z.bd [0,5] Sb U U U U U U) ?_
    refine S.dd (D.box U U U (λp8=>?_))
    refine S.qu (Z.as U) ?_
    refine US.nil (UQ.then (S.sq (S.rg ?_)))
    refine S.qu (Z.mv U) ?_
    refine S.dd (D.co (.cons 0 U .nil) U U (λG hD=>hs1 _ G hD) ?_)
    rintro _ _ ⟨rfl,rfl⟩
    refine S.qu (Z.mv U) ?_
    refine S.dd (D.co (.cons 0 U .nil) U U (λG hD=>hs2 _ G hD) ?_)
    rintro _ _ ⟨rfl,rfl⟩
    refine S.qu (Z.mv U) ?_
    refine S.dd (D.co (.cons 0 U .nil) U U (λG hD=>hs3 _ G hD) ?_)
    rintro _ _ ⟨rfl,rfl⟩
    refine S.qu (Z.mv U) ?_
    refine S.dd (D.co (.cons 0 U .nil) U U (λG hD=>hs4 _ G hD) ?_)
    rintro _ _ ⟨rfl,rfl⟩
    refine S.qu (Z.mv U) ?_
    refine S.dd (D.co (.cons 0 U .nil) U U (λG hD=>hs5 _ G hD) ?_)
    rintro _ _ ⟨rfl,rfl⟩
    refine S.qu (Z.mv U) ?_
    refine S.dd (D.co (.cons 0 U .nil) U U (λG hD=>hs6 _ G hD) ?_)
    rintro _ _ ⟨rfl,rfl⟩
    refine S.qu (Z.mv U) ?_
    refine S.dd (D.co (.cons 0 U .nil) U U (λG hD=>hs7 _ G hD) ?_)
    rintro _ _ ⟨rfl,rfl⟩
    refine S.qu (Z.mv U) ?_
    refine S.dd (D.co (.cons 0 U .nil) U U (λG hD=>hs8 _ G hD) ?_)
    rintro _ _ ⟨rfl,rfl⟩
    refine S.qu (Z.bd [1,4,5,6,7,8,9,10] Ch U U U U U U) ?_
    refine S.dd (D.al z28 U U U (λp5=>?_))
    refine S.s (D.st 0 gy U U U U U U U U (λ_=>?_))
    refine US.nil (UQ.then (S.sq (S.rg ?_)))
    refine S.qu (Z.mv U) ?_
    refine S.dd (D.co (.cons 1 U .nil) U U (λG hD=>hs9 _ G hD) ?_)
    rintro _ _ ⟨rfl,rfl⟩
    refine US.nil (UQ.then (S.sq (S.sq (S.rg ?_))))
    refine S.qu (Z.dA 3 av U U U) ?_
    refine S.qu (Z.call U U (λH=>hgt H)) ?_
    refine S.qu (Z.mv U) ?_
    refine S.qu (Z.ex U U) ?_
    refine S.qu (Z.ex U U) ?_
    refine S.qu (Z.fa kW U) ?_
    refine S.s (D.st 1 oo U U U U U U U U (λ_=>?_))
    refine US.nil (UQ.then (S.sq (S.rg ?_)))
    refine S.qu (Z.fa kW U) ?_
    refine S.qu (Z.di 1 oo U U U) ?_
    refine US.nil (UQ.then ?_)
    refine S.cT U U ?_
    refine S.rg ?_
    refine S.qu (Z.mv U) ?_
    refine S.dd (D.co (.cons 0 U .nil) U U (λG hD=>hs10 _ G hD) ?_)
    rintro _ _ ⟨rfl,rfl⟩
    refine S.qu (Z.fa wZ U) ?_
    refine S.s (D.st 1 ed U U U U U U U U (λ_=>?_))
    refine US.nil (UQ.then (S.sq (UW.block (S.sq (S.rg ?_)))))
    refine S.qu (Z.mv U) ?_
    refine S.qu (Z.nN U) ?_
    refine S.qu (Z.fa iC U) ?_
    refine S.qu (Z.di 0 oo U U U) ?_
    refine S.qu (Z.not U) ?_
    refine S.qu (Z.as U) ?_
    refine US.nil (UQ.then ?_)
    refine S.cF U U ?_
    refine S.sq (S.rg ?_)
    refine S.qu (Z.dA 3 av U U U) ?_
    refine S.qu (Z.call U U (λH=>hdp H)) ?_
    refine S.qu (Z.bi U U U) ?_
    refine S.qu (Z.as U) ?_
    refine US.nil (UQ.then ?_)
    refine S.cF U (decide_eq_false (by omega)) ?_
    refine S.sq (S.rg ?_)
    refine S.qu (Z.dA 3 av U U U) ?_
    refine S.qu (Z.fe U U (λ_ hS=>hpr _ (hG.mono hS))) ?_
    refine S.qu (Z.wP Tryz.underlying9 U) ?_
    refine S.qu (Z.bi U U U) ?_
    refine S.qu (Z.as U) ?_
    refine US.nil (UQ.then ?_)
    refine S.cF U (decide_eq_false (by omega)) ?_
    refine S.sq (S.rg ?_)
    refine S.qu (Z.dA 3 av U U U) ?_
    refine S.qu (Z.fe U U (λ_ hS=>hhs _ (hG.mono hS))) ?_
    refine S.qu (Z.not U) ?_
    refine S.qu (Z.as U) ?_
    refine US.nil (UQ.then ?_)
    refine S.cT U U ?_
    refine S.sq (S.rg ?_)
    refine S.qu (Z.bd [] Ch U U U U U U) ?_
    refine S.s (D.st 2 gy U U U U U U U U (λ_=>?_))
    refine S.qu (Z.as U) ?_
    refine US.nil (UQ.then (UW.ret (UQ.aH (UQ.ax ?_))))
    refine S.bK (λhd=>fJ U (jv (k:=2) hd U U Gc Gd) (bE U)) ?_
    rfl
   |true=>
    rw[hr2 U U]
    refine aF (n:=66) (H0:=H) (I:=[]) Tryz.func15 (by kernel_rfl) U (by rw[Tryz.ntmps15];rfl) .nil ?_
    refine S.sq (S.rg ?_)
    refine S.dd (D.box U U U (λp1=>?_))
    refine S.dd (D.al z28 U U U (λp2=>?_))
    refine S.qu (Z.as U) ?_
    refine US.nil (UQ.then (S.sq (S.rg ?_)))
    refine S.qu (Z.dA 1 av U U U) ?_
    refine S.qu (Z.bd [0,5] Sb U U U U U U) ?_
    refine S.dd (D.box U U U (λp8=>?_))
    refine S.qu (Z.as U) ?_
    refine US.nil (UQ.then (S.sq (S.rg ?_)))
    refine S.qu (Z.mv U) ?_
    refine S.dd (D.co (.cons 0 U .nil) U U (λG hD=>hs1 _ G hD) ?_)
    rintro _ _ ⟨rfl,rfl⟩
    refine S.qu (Z.mv U) ?_
    refine S.dd (D.co (.cons 0 U .nil) U U (λG hD=>hs2 _ G hD) ?_)
    rintro _ _ ⟨rfl,rfl⟩
    refine S.qu (Z.mv U) ?_
    refine S.dd (D.co (.cons 0 U .nil) U U (λG hD=>hs3 _ G hD) ?_)
    rintro _ _ ⟨rfl,rfl⟩
    refine S.qu (Z.mv U) ?_
    refine S.dd (D.co (.cons 0 U .nil) U U (λG hD=>hs4 _ G hD) ?_)
    rintro _ _ ⟨rfl,rfl⟩
    refine S.qu (Z.mv U) ?_
    refine S.dd (D.co (.cons 0 U .nil) U U (λG hD=>hs5 _ G hD) ?_)
    rintro _ _ ⟨rfl,rfl⟩
    refine S.qu (Z.mv U) ?_
    refine S.dd (D.co (.cons 0 U .nil) U U (λG hD=>hs6 _ G hD) ?_)
    rintro _ _ ⟨rfl,rfl⟩
    refine S.qu (Z.mv U) ?_
    refine S.dd (D.co (.cons 0 U .nil) U U (λG hD=>hs7 _ G hD) ?_)
    rintro _ _ ⟨rfl,rfl⟩
    refine S.qu (Z.mv U) ?_
    refine S.dd (D.co (.cons 0 U .nil) U U (λG hD=>hs8 _ G hD) ?_)
    rintro _ _ ⟨rfl,rfl⟩
    refine S.qu (Z.bd [1,4,5,6,7,8,9,10] Ch U U U U U U) ?_
    refine S.dd (D.al z28 U U U (λp5=>?_))
    refine S.s (D.st 0 gy U U U U U U U U (λ_=>?_))
    refine US.nil (UQ.then (S.sq (S.rg ?_)))
    refine S.qu (Z.mv U) ?_
    refine S.dd (D.co (.cons 1 U .nil) U U (λG hD=>hs9 _ G hD) ?_)
    rintro _ _ ⟨rfl,rfl⟩
    refine US.nil (UQ.then (S.sq (S.sq (S.rg ?_))))
    refine S.qu (Z.dA 3 av U U U) ?_
    refine S.qu (Z.call U U (λH=>hgt H)) ?_
    refine S.qu (Z.mv U) ?_
    refine S.qu (Z.ex U U) ?_
    refine S.qu (Z.ex U U) ?_
    refine S.qu (Z.fa kW U) ?_
    refine S.s (D.st 1 oo U U U U U U U U (λ_=>?_))
    refine US.nil (UQ.then (S.sq (S.rg ?_)))
    refine S.qu (Z.fa kW U) ?_
    refine S.qu (Z.di 1 oo U U U) ?_
    refine US.nil (UQ.then ?_)
    refine S.cT U U ?_
    refine S.rg ?_
    refine S.qu (Z.mv U) ?_
    refine S.dd (D.co (.cons 0 U .nil) U U (λG hD=>hs10 _ G hD) ?_)
    rintro _ _ ⟨rfl,rfl⟩
    refine S.qu (Z.fa wZ U) ?_
    refine S.s (D.st 1 ed U U U U U U U U (λ_=>?_))
    refine US.nil (UQ.then (S.sq (UW.block (S.sq (S.rg ?_)))))
    refine S.qu (Z.mv U) ?_
    refine S.qu (Z.nN U) ?_
    refine S.qu (Z.fa iC U) ?_
    refine S.qu (Z.di 0 oo U U U) ?_
    refine S.qu (Z.not U) ?_
    refine S.qu (Z.as U) ?_
    refine US.nil (UQ.then ?_)
    refine S.cF U U ?_
    refine S.sq (S.rg ?_)
    refine S.qu (Z.dA 3 av U U U) ?_
    refine S.qu (Z.call U U (λH=>hdp H)) ?_
    refine S.qu (Z.bi U U U) ?_
    refine S.qu (Z.as U) ?_
    refine US.nil (UQ.then ?_)
    refine S.cF U (decide_eq_false (by omega)) ?_
    refine S.sq (S.rg ?_)
    refine S.qu (Z.dA 3 av U U U) ?_
    refine S.qu (Z.fe U U (λ_ hS=>hpr _ (hG.mono hS))) ?_
    refine S.qu (Z.wP Tryz.underlying9 U) ?_
    refine S.qu (Z.bi U U U) ?_
    refine S.qu (Z.as U) ?_
    refine US.nil (UQ.then ?_)
    refine S.cF U (decide_eq_false (by omega)) ?_
    refine S.sq (S.rg ?_)
    refine S.qu (Z.dA 3 av U U U) ?_
    refine S.qu (Z.fe U U (λ_ hS=>hhs _ (hG.mono hS))) ?_
    refine S.qu (Z.not U) ?_
    refine S.qu (Z.as U) ?_
    refine US.nil (UQ.then ?_)
    refine S.cF U U ?_
    refine UW.skip (UQ.aB (UQ.then (S.sq (S.rg ?_))))
    refine S.qu (Z.dA 3 av U U U) ?_
    refine S.qu (Z.fe U U (λ_ hS=>hid _ (hG.mono hS))) ?_
    refine S.qu (Z.fa wY U) ?_
    refine S.s (D.st 1 ed U U U U U U U U (λ_=>?_))
    refine US.nil (UQ.then (S.sq (S.rg ?_)))
    refine S.qu (Z.dA 1 gy U U U) ?_
    refine S.s (D.st 2 gy U U U U U U U U (λ_=>?_))
    refine S.qu (Z.as U) ?_
    refine US.nil (UQ.then (UW.ret ?_))
    refine S.bK (λhd=>fJ U (jv (k:=2) hd U U Gc Gd) (bE U)) ?_
    rfl
 |false=>
  have hn:=hn U
  subst hn
  clear hy
  cases ok with
  |false=>
   rw[hr0 U]
   refine aF (n:=66) (H0:=H) (I:=[]) Tryz.func15 (by kernel_rfl) U (by rw[Tryz.ntmps15];rfl) .nil ?_
   refine S.sq (S.rg ?_)
   refine S.dd (D.box U U U (λp1=>?_))
   refine S.dd (D.al z28 U U U (λp2=>?_))
   refine S.qu (Z.as U) ?_
   refine US.nil (UQ.then (S.sq (S.rg ?_)))
   refine S.qu (Z.dA 1 av U U U) ?_
   refine S.qu (Z.bd [0,5] Sb U U U U U U) ?_
   refine S.dd (D.box U U U (λp8=>?_))
   refine S.qu (Z.as U) ?_
   refine US.nil (UQ.then (S.sq (S.rg ?_)))
   refine S.qu (Z.mv U) ?_
   refine S.dd (D.co (.cons 0 U .nil) U U (λG hD=>hs1 _ G hD) ?_)
   rintro _ _ ⟨rfl,rfl⟩
   refine S.qu (Z.mv U) ?_
   refine S.dd (D.co (.cons 0 U .nil) U U (λG hD=>hs2 _ G hD) ?_)
   rintro _ _ ⟨rfl,rfl⟩
   refine S.qu (Z.mv U) ?_
   refine S.dd (D.co (.cons 0 U .nil) U U (λG hD=>hs3 _ G hD) ?_)
   rintro _ _ ⟨rfl,rfl⟩
   refine S.qu (Z.mv U) ?_
   refine S.dd (D.co (.cons 0 U .nil) U U (λG hD=>hs4 _ G hD) ?_)
   rintro _ _ ⟨rfl,rfl⟩
   refine S.qu (Z.mv U) ?_
   refine S.dd (D.co (.cons 0 U .nil) U U (λG hD=>hs5 _ G hD) ?_)
   rintro _ _ ⟨rfl,rfl⟩
   refine S.qu (Z.mv U) ?_
   refine S.dd (D.co (.cons 0 U .nil) U U (λG hD=>hs6 _ G hD) ?_)
   rintro _ _ ⟨rfl,rfl⟩
   refine S.qu (Z.mv U) ?_
   refine S.dd (D.co (.cons 0 U .nil) U U (λG hD=>hs7 _ G hD) ?_)
   rintro _ _ ⟨rfl,rfl⟩
   refine S.qu (Z.mv U) ?_
   refine S.dd (D.co (.cons 0 U .nil) U U (λG hD=>hs8 _ G hD) ?_)
   rintro _ _ ⟨rfl,rfl⟩
   refine S.qu (Z.bd [1,4,5,6,7,8,9,10] Ch U U U U U U) ?_
   refine S.dd (D.al z28 U U U (λp5=>?_))
   refine S.s (D.st 0 gy U U U U U U U U (λ_=>?_))
   refine US.nil (UQ.then (S.sq (S.rg ?_)))
   refine S.qu (Z.mv U) ?_
   refine S.dd (D.co (.cons 1 U .nil) U U (λG hD=>hs9 _ G hD) ?_)
   rintro _ _ ⟨rfl,rfl⟩
   refine US.nil (UQ.then (S.sq (S.sq (S.rg ?_))))
   refine S.qu (Z.dA 3 av U U U) ?_
   refine S.qu (Z.call U U (λH=>hgt H)) ?_
   refine S.qu (Z.mv U) ?_
   refine S.qu (Z.ex U U) ?_
   refine S.qu (Z.ex U U) ?_
   refine S.qu (Z.fa kW U) ?_
   refine S.s (D.st 1 oo U U U U U U U U (λ_=>?_))
   refine US.nil (UQ.then (S.sq (S.rg ?_)))
   refine S.qu (Z.fa kW U) ?_
   refine S.qu (Z.di 1 oo U U U) ?_
   refine US.nil (UQ.then ?_)
   refine S.cF U U ?_
   refine UW.skip (UQ.then (S.sq (UW.block (S.sq (S.rg ?_)))))
   refine S.qu (Z.mv U) ?_
   refine S.qu (Z.nN U) ?_
   refine S.qu (Z.fa iC U) ?_
   refine S.qu (Z.di 0 oo U U U) ?_
   refine S.qu (Z.not U) ?_
   refine S.qu (Z.as U) ?_
   refine US.nil (UQ.then ?_)
   refine S.cT U U ?_
   refine S.sq (S.rg ?_)
   refine S.qu (Z.bd [] Ch U U U U U U) ?_
   refine S.s (D.st 2 gy U U U U U U U U (λ_=>?_))
   refine S.qu (Z.as U) ?_
   refine US.nil (UQ.then (UW.ret (UQ.aH (UQ.ax ?_))))
   refine S.bK (λhd=>fJ U (jv (k:=2) hd U U Gc Gd) (bE U)) ?_
   rfl
  |true=>
   cases hsd with
   |false=>
    rw[hr1 U U]
    refine aF (n:=66) (H0:=H) (I:=[]) Tryz.func15 (by kernel_rfl) U (by rw[Tryz.ntmps15];rfl) .nil ?_
    refine S.sq (S.rg ?_)
    refine S.dd (D.box U U U (λp1=>?_))
    refine S.dd (D.al z28 U U U (λp2=>?_))
    refine S.qu (Z.as U) ?_
    refine US.nil (UQ.then (S.sq (S.rg ?_)))
    refine S.qu (Z.dA 1 av U U U) ?_
    refine S.qu (Z.bd [0,5] Sb U U U U U U) ?_
    refine S.dd (D.box U U U (λp8=>?_))
    refine S.qu (Z.as U) ?_
    refine US.nil (UQ.then (S.sq (S.rg ?_)))
    refine S.qu (Z.mv U) ?_
    refine S.dd (D.co (.cons 0 U .nil) U U (λG hD=>hs1 _ G hD) ?_)
    rintro _ _ ⟨rfl,rfl⟩
    refine S.qu (Z.mv U) ?_
    refine S.dd (D.co (.cons 0 U .nil) U U (λG hD=>hs2 _ G hD) ?_)
    rintro _ _ ⟨rfl,rfl⟩
    refine S.qu (Z.mv U) ?_
    refine S.dd (D.co (.cons 0 U .nil) U U (λG hD=>hs3 _ G hD) ?_)
    rintro _ _ ⟨rfl,rfl⟩
    refine S.qu (Z.mv U) ?_
    refine S.dd (D.co (.cons 0 U .nil) U U (λG hD=>hs4 _ G hD) ?_)
    rintro _ _ ⟨rfl,rfl⟩
    refine S.qu (Z.mv U) ?_
    refine S.dd (D.co (.cons 0 U .nil) U U (λG hD=>hs5 _ G hD) ?_)
    rintro _ _ ⟨rfl,rfl⟩
    refine S.qu (Z.mv U) ?_
    refine S.dd (D.co (.cons 0 U .nil) U U (λG hD=>hs6 _ G hD) ?_)
    rintro _ _ ⟨rfl,rfl⟩
    refine S.qu (Z.mv U) ?_
    refine S.dd (D.co (.cons 0 U .nil) U U (λG hD=>hs7 _ G hD) ?_)
    rintro _ _ ⟨rfl,rfl⟩
    refine S.qu (Z.mv U) ?_
    refine S.dd (D.co (.cons 0 U .nil) U U (λG hD=>hs8 _ G hD) ?_)
    rintro _ _ ⟨rfl,rfl⟩
    refine S.qu (Z.bd [1,4,5,6,7,8,9,10] Ch U U U U U U) ?_
    refine S.dd (D.al z28 U U U (λp5=>?_))
    refine S.s (D.st 0 gy U U U U U U U U (λ_=>?_))
    refine US.nil (UQ.then (S.sq (S.rg ?_)))
    refine S.qu (Z.mv U) ?_
    refine S.dd (D.co (.cons 1 U .nil) U U (λG hD=>hs9 _ G hD) ?_)
    rintro _ _ ⟨rfl,rfl⟩
    refine US.nil (UQ.then (S.sq (S.sq (S.rg ?_))))
    refine S.qu (Z.dA 3 av U U U) ?_
    refine S.qu (Z.call U U (λH=>hgt H)) ?_
    refine S.qu (Z.mv U) ?_
    refine S.qu (Z.ex U U) ?_
    refine S.qu (Z.ex U U) ?_
    refine S.qu (Z.fa kW U) ?_
    refine S.s (D.st 1 oo U U U U U U U U (λ_=>?_))
    refine US.nil (UQ.then (S.sq (S.rg ?_)))
    refine S.qu (Z.fa kW U) ?_
    refine S.qu (Z.di 1 oo U U U) ?_
    refine US.nil (UQ.then ?_)
    refine S.cF U U ?_
    refine UW.skip (UQ.then (S.sq (UW.block (S.sq (S.rg ?_)))))
    refine S.qu (Z.mv U) ?_
    refine S.qu (Z.nN U) ?_
    refine S.qu (Z.fa iC U) ?_
    refine S.qu (Z.di 0 oo U U U) ?_
    refine S.qu (Z.not U) ?_
    refine S.qu (Z.as U) ?_
    refine US.nil (UQ.then ?_)
    refine S.cF U U ?_
    refine S.sq (S.rg ?_)
    refine S.qu (Z.dA 3 av U U U) ?_
    refine S.qu (Z.call U U (λH=>hdp H)) ?_
    refine S.qu (Z.bi U U U) ?_
    refine S.qu (Z.as U) ?_
    refine US.nil (UQ.then ?_)
    refine S.cF U (decide_eq_false (by omega)) ?_
    refine S.sq (S.rg ?_)
    refine S.qu (Z.dA 3 av U U U) ?_
    refine S.qu (Z.fe U U (λ_ hS=>hpr _ (hG.mono hS))) ?_
    refine S.qu (Z.wP Tryz.underlying9 U) ?_
    refine S.qu (Z.bi U U U) ?_
    refine S.qu (Z.as U) ?_
    refine US.nil (UQ.then ?_)
    refine S.cF U (decide_eq_false (by omega)) ?_
    refine S.sq (S.rg ?_)
    refine S.qu (Z.dA 3 av U U U) ?_
    refine S.qu (Z.fe U U (λ_ hS=>hhs _ (hG.mono hS))) ?_
    refine S.qu (Z.not U) ?_
    refine S.qu (Z.as U) ?_
    refine US.nil (UQ.then ?_)
    refine S.cT U U ?_
    refine S.sq (S.rg ?_)
    refine S.qu (Z.bd [] Ch U U U U U U) ?_
    refine S.s (D.st 2 gy U U U U U U U U (λ_=>?_))
    refine S.qu (Z.as U) ?_
    refine US.nil (UQ.then (UW.ret (UQ.aH (UQ.ax ?_))))
    refine S.bK (λhd=>fJ U (jv (k:=2) hd U U Gc Gd) (bE U)) ?_
    rfl
   |true=>
    rw[hr2 U U]
    refine aF (n:=66) (H0:=H) (I:=[]) Tryz.func15 (by kernel_rfl) U (by rw[Tryz.ntmps15];rfl) .nil ?_
    refine S.sq (S.rg ?_)
    refine S.dd (D.box U U U (λp1=>?_))
    refine S.dd (D.al z28 U U U (λp2=>?_))
    refine S.qu (Z.as U) ?_
    refine US.nil (UQ.then (S.sq (S.rg ?_)))
    refine S.qu (Z.dA 1 av U U U) ?_
    refine S.qu (Z.bd [0,5] Sb U U U U U U) ?_
    refine S.dd (D.box U U U (λp8=>?_))
    refine S.qu (Z.as U) ?_
    refine US.nil (UQ.then (S.sq (S.rg ?_)))
    refine S.qu (Z.mv U) ?_
    refine S.dd (D.co (.cons 0 U .nil) U U (λG hD=>hs1 _ G hD) ?_)
    rintro _ _ ⟨rfl,rfl⟩
    refine S.qu (Z.mv U) ?_
    refine S.dd (D.co (.cons 0 U .nil) U U (λG hD=>hs2 _ G hD) ?_)
    rintro _ _ ⟨rfl,rfl⟩
    refine S.qu (Z.mv U) ?_
    refine S.dd (D.co (.cons 0 U .nil) U U (λG hD=>hs3 _ G hD) ?_)
    rintro _ _ ⟨rfl,rfl⟩
    refine S.qu (Z.mv U) ?_
    refine S.dd (D.co (.cons 0 U .nil) U U (λG hD=>hs4 _ G hD) ?_)
    rintro _ _ ⟨rfl,rfl⟩
    refine S.qu (Z.mv U) ?_
    refine S.dd (D.co (.cons 0 U .nil) U U (λG hD=>hs5 _ G hD) ?_)
    rintro _ _ ⟨rfl,rfl⟩
    refine S.qu (Z.mv U) ?_
    refine S.dd (D.co (.cons 0 U .nil) U U (λG hD=>hs6 _ G hD) ?_)
    rintro _ _ ⟨rfl,rfl⟩
    refine S.qu (Z.mv U) ?_
    refine S.dd (D.co (.cons 0 U .nil) U U (λG hD=>hs7 _ G hD) ?_)
    rintro _ _ ⟨rfl,rfl⟩
    refine S.qu (Z.mv U) ?_
    refine S.dd (D.co (.cons 0 U .nil) U U (λG hD=>hs8 _ G hD) ?_)
    rintro _ _ ⟨rfl,rfl⟩
    refine S.qu (Z.bd [1,4,5,6,7,8,9,10] Ch U U U U U U) ?_
    refine S.dd (D.al z28 U U U (λp5=>?_))
    refine S.s (D.st 0 gy U U U U U U U U (λ_=>?_))
    refine US.nil (UQ.then (S.sq (S.rg ?_)))
    refine S.qu (Z.mv U) ?_
    refine S.dd (D.co (.cons 1 U .nil) U U (λG hD=>hs9 _ G hD) ?_)
    rintro _ _ ⟨rfl,rfl⟩
    refine US.nil (UQ.then (S.sq (S.sq (S.rg ?_))))
    refine S.qu (Z.dA 3 av U U U) ?_
    refine S.qu (Z.call U U (λH=>hgt H)) ?_
    refine S.qu (Z.mv U) ?_
    refine S.qu (Z.ex U U) ?_
    refine S.qu (Z.ex U U) ?_
    refine S.qu (Z.fa kW U) ?_
    refine S.s (D.st 1 oo U U U U U U U U (λ_=>?_))
    refine US.nil (UQ.then (S.sq (S.rg ?_)))
    refine S.qu (Z.fa kW U) ?_
    refine S.qu (Z.di 1 oo U U U) ?_
    refine US.nil (UQ.then ?_)
    refine S.cF U U ?_
    refine UW.skip (UQ.then (S.sq (UW.block (S.sq (S.rg ?_)))))
    refine S.qu (Z.mv U) ?_
    refine S.qu (Z.nN U) ?_
    refine S.qu (Z.fa iC U) ?_
    refine S.qu (Z.di 0 oo U U U) ?_
    refine S.qu (Z.not U) ?_
    refine S.qu (Z.as U) ?_
    refine US.nil (UQ.then ?_)
    refine S.cF U U ?_
    refine S.sq (S.rg ?_)
    refine S.qu (Z.dA 3 av U U U) ?_
    refine S.qu (Z.call U U (λH=>hdp H)) ?_
    refine S.qu (Z.bi U U U) ?_
    refine S.qu (Z.as U) ?_
    refine US.nil (UQ.then ?_)
    refine S.cF U (decide_eq_false (by omega)) ?_
    refine S.sq (S.rg ?_)
    refine S.qu (Z.dA 3 av U U U) ?_
    refine S.qu (Z.fe U U (λ_ hS=>hpr _ (hG.mono hS))) ?_
    refine S.qu (Z.wP Tryz.underlying9 U) ?_
    refine S.qu (Z.bi U U U) ?_
    refine S.qu (Z.as U) ?_
    refine US.nil (UQ.then ?_)
    refine S.cF U (decide_eq_false (by omega)) ?_
    refine S.sq (S.rg ?_)
    refine S.qu (Z.dA 3 av U U U) ?_
    refine S.qu (Z.fe U U (λ_ hS=>hhs _ (hG.mono hS))) ?_
    refine S.qu (Z.not U) ?_
    refine S.qu (Z.as U) ?_
    refine US.nil (UQ.then ?_)
    refine S.cF U U ?_
    refine UW.skip (UQ.aB (UQ.then (S.sq (S.rg ?_))))
    refine S.qu (Z.dA 3 av U U U) ?_
    refine S.qu (Z.fe U U (λ_ hS=>hid _ (hG.mono hS))) ?_
    refine S.qu (Z.fa wY U) ?_
    refine S.s (D.st 1 ed U U U U U U U U (λ_=>?_))
    refine US.nil (UQ.then (S.sq (S.rg ?_)))
    refine S.qu (Z.dA 1 gy U U U) ?_
    refine S.s (D.st 2 gy U U U U U U U U (λ_=>?_))
    refine S.qu (Z.as U) ?_
    refine US.nil (UQ.then (UW.ret ?_))
    refine S.bK (λhd=>fJ U (jv (k:=2) hd U U Gc Gd) (bE U)) ?_
    rfl
end Go.Proofs.YtonpfomjoiaacaaGreatDoor
end
