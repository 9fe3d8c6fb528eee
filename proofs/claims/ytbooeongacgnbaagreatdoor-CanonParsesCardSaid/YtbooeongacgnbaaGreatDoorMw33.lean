/- A part of the proof. -/
import Derived.Test.YtbooeongacgnbaaGreatDoorMw32
import Derived.Test.YtbooeongacgnbaaGreatDoorMw17
set_option maxRecDepth 100000
set_option maxHeartbeats 4000000
set_option linter.unusedSectionVars false
set_option linter.unusedVariables false
set_option linter.unusedSimpArgs false
section
namespace Go.Proofs.YtbooeongacgnbaaGreatDoor
open Go Go.gW Go.RowKit
def j5(s:ByteArray)(d:Nat)(H:Hp):PR->AV->Hp->Prop
 | .err e q=>λr H'=>H'=H/\∃v,r=.dH [.agg (tq s q e d),.agg (aN v)]
 | .ok q v=>λr H'=>H'=H/\r=.dH [.agg (dZ s q d),.agg (aN v)]
theorem Bq{P:Program}{f:Nat}{us:List AV}{R:AV->Prop}(h:∀H,F P f us H (λr H'=>H'=H/\R r))(G:Hp):aK G []->F P f (us++[]) (aB G []) (λu H'=>∃news,aK G news/\H'=aB G news/\(news=[]/\R u)):=λhD=>by
 rw[List.append_nil]
 exact(h (aB G [])).mono (λu H' hq=>⟨[],hD,hq.1,rfl,hq.2⟩)
theorem Km(s:ByteArray)(p d q:Nat)(e:Int)(hs:s.size<=1000000)(hd:d<32)(h1:bT s p 91=true)(h2:bT s p 123=false)(Wi:∀H,F Tryz.prog 63 [.agg (dZ s p (d+1)),.v (.int .u8 93)] H (j5 s (d+1) H (.err e q)))(H:Hp):F Tryz.prog 43 [.agg (dZ s p d)] H (j5 s d H (.err e q)):=by
 have hi:∀c d H,F Tryz.prog 62 [.agg (dZ s p d),.v (.int .u8 c)] H (bn H (.v (.bool (bT s p c)))):=λc d H=>ji s p d c hs H
 refine aA (n:=81) (H0:=H) (M:=[]) Tryz.func43 (by kernel_rfl) U (by rw[Tryz.ntmps43];rfl) .nil<|?_
 refine Q.rg<|S.dd<|D.box U U U λp1=>S.dd<|D.al z72 U U U λp2=>S.dd<|D.al z27 U U U λp3=>Q.nt<|S.sq<|Q.rg<|Q.fa dz U<|Q.lc 2 bC U U U<|Q.bi U U U<|Q.nt<|S.cF U (fE (by omega))<|UW.skip<|UQ.then<|S.sq<|Q.rg<|S.qu (Z.bg 2 aF U U U)<|S.qu (Z.tT (Z.call U U (λH=>hi 91 d H)) h1)<|Q.mv U<|Q.of<|Q.of<|Q.pk U U<|Q.nt<|S.cT U U<|S.sq<|Q.rg<|Q.fa jm U<|Q.lc 2 bC U U U<|Q.bi U U U<|Q.nt<|S.cF U (decide_eq_false (by omega))<|UW.skip<|UQ.then<|Q.rg<|Q.fa jm U<|Q.lc 2 bC U U U<|S.qu (Z.add (r:=((d+1:Nat):Int)) U U (IntWalk.i64_in _ (by omega)))<|Q.fa jm U<|S.s<|D.st 2 bC U U U U U U U U λ_=>Q.nt<|Q.rg<|Q.as U<|Q.nt<|S.sq<|Q.rg<|S.qu (Z.bg 2 aF U U U)<|S.qu (Z.tF (Z.call U U (λH=>hi 123 (d+1) H)) h2)<|Q.nt<|S.cF U U<|UW.skip<|UQ.then<|Q.rg<|S.qu (Z.bg 2 aF U U U)<|?_
 refine Q.mv U<|S.dd<|D.co .nil U U (λG hD=>Bq Wi G hD)<|?_
 (rintro _ _ ⟨rfl,v,rfl⟩)
 refine Q.mv U<|S.qu (Z.ex U U)<|S.qu (Z.ex U U)<|S.dd<|D.al z72 U U U λp5=>S.dd<|D.al z27 U U U λp6=>S.s<|D.st 1 aF U U U U U U U U λ_=>S.s<|D.l8 0 ay U U U U (by exact aH _) (ak _) U U λ_=>?_
 refine Q.nt<|Q.rg<|Q.fa jm U<|Q.lc 1 bC U U U<|S.qu (Z.sub (r:=(d:Int)) U U (Eq.trans (IntWalk.i64_in _ (by omega)) (by omega)))<|Q.fa jm U<|S.s<|D.st 1 bC U U U U U U U U λ_=>Q.nt<|S.sq<|?_
 refine' UW.gF (by kernel_rfl) [0] [0,0,1,7] [some 46,some 47,none,none] [some (46,_),some (47,_),none,none] [2,3] [0] U (by decide) (by decide) (I.held (by decide) U U ?jK (I.kept (by decide) U U ?jL (I.skip (I.skip I.nil)))) ?u7
 case jK=>exact Z.bg 1 aF rfl rfl rfl
 case jL=>(intro _ hK;exact Z.kw 0 hK ay rfl rfl (ak _))
 refine CH.aV U U ?_ (.c 0 U .n)
 refine D.st 3 aF U U U U U U U U λ_=>?_
 refine CH.aV U U ?_ (.c 0 U .n)
 refine D.l8 2 ay U U U U (by exact aH _) (ak _) U U λ_=>?_
 refine CH.nil ?_ (.c 0 U .n)
 simp only[app,bV]
 refine UQ.then<|UW.ret<|UQ.aj<|?_
 cases v
 refine S.rt (λhd=>ax U (av (k:=3) hd U U fM fO) (av (k:=2) hd U U bH bI)) ⟨rfl,_,rfl⟩
theorem M5(s:ByteArray)(p d q:Nat)(v:V)(hs:s.size<=1000000)(hd:d<32)(h1:bT s p 91=true)(h2:bT s p 123=false)(Wi:∀H,F Tryz.prog 63 [.agg (dZ s p (d+1)),.v (.int .u8 93)] H (j5 s (d+1) H (.ok q v)))(H:Hp):F Tryz.prog 43 [.agg (dZ s p d)] H (j5 s d H (.ok q v)):=by
 have hi:∀c d H,F Tryz.prog 62 [.agg (dZ s p d),.v (.int .u8 c)] H (bn H (.v (.bool (bT s p c)))):=λc d H=>ji s p d c hs H
 refine aA (n:=81) (H0:=H) (M:=[]) Tryz.func43 (by kernel_rfl) U (by rw[Tryz.ntmps43];rfl) .nil<|?_
 refine Q.rg<|S.dd<|D.box U U U λp1=>S.dd<|D.al z72 U U U λp2=>S.dd<|D.al z27 U U U λp3=>Q.nt<|S.sq<|Q.rg<|Q.fa dz U<|Q.lc 2 bC U U U<|Q.bi U U U<|Q.nt<|S.cF U (fE (by omega))<|UW.skip<|UQ.then<|S.sq<|Q.rg<|S.qu (Z.bg 2 aF U U U)<|S.qu (Z.tT (Z.call U U (λH=>hi 91 d H)) h1)<|Q.mv U<|Q.of<|Q.of<|Q.pk U U<|Q.nt<|S.cT U U<|S.sq<|Q.rg<|Q.fa jm U<|Q.lc 2 bC U U U<|Q.bi U U U<|Q.nt<|S.cF U (decide_eq_false (by omega))<|UW.skip<|UQ.then<|Q.rg<|Q.fa jm U<|Q.lc 2 bC U U U<|S.qu (Z.add (r:=((d+1:Nat):Int)) U U (IntWalk.i64_in _ (by omega)))<|Q.fa jm U<|S.s<|D.st 2 bC U U U U U U U U λ_=>Q.nt<|Q.rg<|Q.as U<|Q.nt<|S.sq<|Q.rg<|S.qu (Z.bg 2 aF U U U)<|S.qu (Z.tF (Z.call U U (λH=>hi 123 (d+1) H)) h2)<|Q.nt<|S.cF U U<|UW.skip<|UQ.then<|Q.rg<|S.qu (Z.bg 2 aF U U U)<|?_
 refine Q.mv U<|S.dd<|D.co .nil U U (λG hD=>Bq Wi G hD)<|?_
 (rintro _ _ ⟨rfl,rfl⟩)
 refine Q.mv U<|S.qu (Z.ex U U)<|S.qu (Z.ex U U)<|S.dd<|D.al z72 U U U λp5=>S.dd<|D.al z27 U U U λp6=>S.s<|D.st 1 aF U U U U U U U U λ_=>S.s<|D.l8 0 ay U U U U (by exact aH _) (ak _) U U λ_=>?_
 refine Q.nt<|Q.rg<|Q.fa jm U<|Q.lc 1 bC U U U<|S.qu (Z.sub (r:=(d:Int)) U U (Eq.trans (IntWalk.i64_in _ (by omega)) (by omega)))<|Q.fa jm U<|S.s<|D.st 1 bC U U U U U U U U λ_=>Q.nt<|S.sq<|?_
 refine' UW.gF (by kernel_rfl) [0] [0,0,1,7] [some 46,some 47,none,none] [some (46,_),some (47,_),none,none] [2,3] [0] U (by decide) (by decide) (I.held (by decide) U U ?gY (I.kept (by decide) U U ?gZ (I.skip (I.skip I.nil)))) ?oD
 case gY=>exact Z.bg 1 aF rfl rfl rfl
 case gZ=>(intro _ hK;exact Z.kw 0 hK ay rfl rfl (ak _))
 refine CH.aV U U ?_ (.c 0 U .n)
 refine D.st 3 aF U U U U U U U U λ_=>?_
 refine CH.aV U U ?_ (.c 0 U .n)
 refine D.l8 2 ay U U U U (by exact aH _) (ak _) U U λ_=>?_
 refine CH.nil ?_ (.c 0 U .n)
 simp only[app,bV]
 refine UQ.then<|UW.ret<|UQ.aj<|?_
 cases v
 refine S.rt (λhd=>ax U (av (k:=3) hd U U fM fO) (av (k:=2) hd U U bH bI)) ⟨rfl,rfl⟩
theorem Kn(s:ByteArray)(p d q:Nat)(e:Int)(hs:s.size<=1000000)(hd:d<32)(h1:bT s p 123=true)(h2:bT s p 91=false)(Wi:∀H,F Tryz.prog 63 [.agg (dZ s p (d+1)),.v (.int .u8 125)] H (j5 s (d+1) H (.err e q)))(H:Hp):F Tryz.prog 43 [.agg (dZ s p d)] H (j5 s d H (.err e q)):=by
 have hi:∀c d H,F Tryz.prog 62 [.agg (dZ s p d),.v (.int .u8 c)] H (bn H (.v (.bool (bT s p c)))):=λc d H=>ji s p d c hs H
 refine aA (n:=81) (H0:=H) (M:=[]) Tryz.func43 (by kernel_rfl) U (by rw[Tryz.ntmps43];rfl) .nil<|?_
 refine Q.rg<|S.dd<|D.box U U U λp1=>S.dd<|D.al z72 U U U λp2=>S.dd<|D.al z27 U U U λp3=>Q.nt<|S.sq<|Q.rg<|Q.fa dz U<|Q.lc 2 bC U U U<|Q.bi U U U<|Q.nt<|S.cF U (fE (by omega))<|UW.skip<|UQ.then<|S.sq<|Q.rg<|S.qu (Z.bg 2 aF U U U)<|S.qu (Z.tF (Z.call U U (λH=>hi 91 d H)) h2)<|Q.mv U<|Q.on (Z.bg 2 aF U U U)<|Q.on (Z.tT (Z.call U U (λH=>hi 123 d H)) h1)<|Q.pk U U<|Q.nt<|S.cT U U<|S.sq<|Q.rg<|Q.fa jm U<|Q.lc 2 bC U U U<|Q.bi U U U<|Q.nt<|S.cF U (decide_eq_false (by omega))<|UW.skip<|UQ.then<|Q.rg<|Q.fa jm U<|Q.lc 2 bC U U U<|S.qu (Z.add (r:=((d+1:Nat):Int)) U U (IntWalk.i64_in _ (by omega)))<|Q.fa jm U<|S.s<|D.st 2 bC U U U U U U U U λ_=>Q.nt<|Q.rg<|Q.as U<|Q.nt<|S.sq<|Q.rg<|S.qu (Z.bg 2 aF U U U)<|S.qu (Z.tT (Z.call U U (λH=>hi 123 (d+1) H)) h1)<|Q.nt<|S.cT U U<|S.rg<|Q.as U<|?_
 refine Q.nt<|Q.rg<|S.qu (Z.bg 2 aF U U U)<|Q.mv U<|S.dd<|D.co .nil U U (λG hD=>Bq Wi G hD)<|?_
 (rintro _ _ ⟨rfl,v,rfl⟩)
 refine Q.mv U<|S.qu (Z.ex U U)<|S.qu (Z.ex U U)<|S.dd<|D.al z72 U U U λp5=>S.dd<|D.al z27 U U U λp6=>S.s<|D.st 1 aF U U U U U U U U λ_=>S.s<|D.l8 0 ay U U U U (by exact aH _) (ak _) U U λ_=>?_
 refine Q.nt<|Q.rg<|Q.fa jm U<|Q.lc 1 bC U U U<|S.qu (Z.sub (r:=(d:Int)) U U (Eq.trans (IntWalk.i64_in _ (by omega)) (by omega)))<|Q.fa jm U<|S.s<|D.st 1 bC U U U U U U U U λ_=>Q.nt<|S.sq<|?_
 refine' UW.gF (by kernel_rfl) [0] [0,0,1,7] [some 46,some 47,none,none] [some (46,_),some (47,_),none,none] [2,3] [0] U (by decide) (by decide) (I.held (by decide) U U ?fG (I.kept (by decide) U U ?fH (I.skip (I.skip I.nil)))) ?lG
 case fG=>exact Z.bg 1 aF rfl rfl rfl
 case fH=>(intro _ hK;exact Z.kw 0 hK ay rfl rfl (ak _))
 refine CH.aV U U ?_ (.c 0 U .n)
 refine D.st 3 aF U U U U U U U U λ_=>?_
 refine CH.aV U U ?_ (.c 0 U .n)
 refine D.l8 2 ay U U U U (by exact aH _) (ak _) U U λ_=>?_
 refine CH.nil ?_ (.c 0 U .n)
 simp only[app,bV]
 refine UQ.then<|UW.ret<|UQ.aj<|?_
 cases v
 refine S.rt (λhd=>ax U (av (k:=3) hd U U fM fO) (av (k:=2) hd U U bH bI)) ⟨rfl,_,rfl⟩
theorem M6(s:ByteArray)(p d q:Nat)(v:V)(hs:s.size<=1000000)(hd:d<32)(h1:bT s p 123=true)(h2:bT s p 91=false)(Wi:∀H,F Tryz.prog 63 [.agg (dZ s p (d+1)),.v (.int .u8 125)] H (j5 s (d+1) H (.ok q v)))(H:Hp):F Tryz.prog 43 [.agg (dZ s p d)] H (j5 s d H (.ok q v)):=by
 have hi:∀c d H,F Tryz.prog 62 [.agg (dZ s p d),.v (.int .u8 c)] H (bn H (.v (.bool (bT s p c)))):=λc d H=>ji s p d c hs H
 refine aA (n:=81) (H0:=H) (M:=[]) Tryz.func43 (by kernel_rfl) U (by rw[Tryz.ntmps43];rfl) .nil<|?_
 refine Q.rg<|S.dd<|D.box U U U λp1=>S.dd<|D.al z72 U U U λp2=>S.dd<|D.al z27 U U U λp3=>Q.nt<|S.sq<|Q.rg<|Q.fa dz U<|Q.lc 2 bC U U U<|Q.bi U U U<|Q.nt<|S.cF U (fE (by omega))<|UW.skip<|UQ.then<|S.sq<|Q.rg<|S.qu (Z.bg 2 aF U U U)<|S.qu (Z.tF (Z.call U U (λH=>hi 91 d H)) h2)<|Q.mv U<|Q.on (Z.bg 2 aF U U U)<|Q.on (Z.tT (Z.call U U (λH=>hi 123 d H)) h1)<|Q.pk U U<|Q.nt<|S.cT U U<|S.sq<|Q.rg<|Q.fa jm U<|Q.lc 2 bC U U U<|Q.bi U U U<|Q.nt<|S.cF U (decide_eq_false (by omega))<|UW.skip<|UQ.then<|Q.rg<|Q.fa jm U<|Q.lc 2 bC U U U<|S.qu (Z.add (r:=((d+1:Nat):Int)) U U (IntWalk.i64_in _ (by omega)))<|Q.fa jm U<|S.s<|D.st 2 bC U U U U U U U U λ_=>Q.nt<|Q.rg<|Q.as U<|Q.nt<|S.sq<|Q.rg<|S.qu (Z.bg 2 aF U U U)<|S.qu (Z.tT (Z.call U U (λH=>hi 123 (d+1) H)) h1)<|Q.nt<|S.cT U U<|S.rg<|Q.as U<|?_
 refine Q.nt<|Q.rg<|S.qu (Z.bg 2 aF U U U)<|Q.mv U<|S.dd<|D.co .nil U U (λG hD=>Bq Wi G hD)<|?_
 (rintro _ _ ⟨rfl,rfl⟩)
 refine Q.mv U<|S.qu (Z.ex U U)<|S.qu (Z.ex U U)<|S.dd<|D.al z72 U U U λp5=>S.dd<|D.al z27 U U U λp6=>S.s<|D.st 1 aF U U U U U U U U λ_=>S.s<|D.l8 0 ay U U U U (by exact aH _) (ak _) U U λ_=>?_
 refine Q.nt<|Q.rg<|Q.fa jm U<|Q.lc 1 bC U U U<|S.qu (Z.sub (r:=(d:Int)) U U (Eq.trans (IntWalk.i64_in _ (by omega)) (by omega)))<|Q.fa jm U<|S.s<|D.st 1 bC U U U U U U U U λ_=>Q.nt<|S.sq<|?_
 refine' UW.gF (by kernel_rfl) [0] [0,0,1,7] [some 46,some 47,none,none] [some (46,_),some (47,_),none,none] [2,3] [0] U (by decide) (by decide) (I.held (by decide) U U ?ic (I.kept (by decide) U U ?ig (I.skip (I.skip I.nil)))) ?oF
 case ic=>exact Z.bg 1 aF rfl rfl rfl
 case ig=>(intro _ hK;exact Z.kw 0 hK ay rfl rfl (ak _))
 refine CH.aV U U ?_ (.c 0 U .n)
 refine D.st 3 aF U U U U U U U U λ_=>?_
 refine CH.aV U U ?_ (.c 0 U .n)
 refine D.l8 2 ay U U U U (by exact aH _) (ak _) U U λ_=>?_
 refine CH.nil ?_ (.c 0 U .n)
 simp only[app,bV]
 refine UQ.then<|UW.ret<|UQ.aj<|?_
 cases v
 refine S.rt (λhd=>ax U (av (k:=3) hd U U fM fO) (av (k:=2) hd U U bH bI)) ⟨rfl,rfl⟩
def ve:List ByteArray:=[⟨#[97]⟩,⟨#[98]⟩,⟨#[109,101,109,98,101,114,115,104,105,112]⟩,⟨#[117,115,101,114,115]⟩,⟨#[195,169]⟩,⟨#[101,118,101,110,116,115]⟩,⟨#[120]⟩,⟨#[116,121,112,101]⟩]
theorem Sb:∀s∈ve,s.size<=4000000:=by decide
def zh(b1:Int)(q:Nat):Nat:=((b1.tdiv 4+3*(q:Int)).tmod 8).toNat
def lJ(b1:Int)(kids:List V):Nat->V
 |0=> .mk 5 0 ⟨#[]⟩ [] []
 |q+1=>dE (lJ b1 kids q) (ve.getD (zh b1 q) ⟨#[]⟩) (kids.getD q zeroV)
def j6(b1:Int)(l:List V):Nat:=min (b1.tmod 4).toNat l.length
def cu(b1:Int)(l:List V):List V:=l.drop (l.length-j6 b1 l)
def yV(b0 b1:Int)(t:ByteArray)(l:List V):Nat×V:=
 if b0.tmod 12=0 then(l.length,.mk 1 (b1.tmod 2) ⟨#[]⟩ [] [])
 else if b0.tmod 12=1\/b0.tmod 12=2\/b0.tmod 12=3 then(l.length,qO (b1-100))
 else if b0.tmod 12=4 then(l.length,qO (9007199254740991-b1.tmod 2))
 else if b0.tmod 12=5\/b0.tmod 12=6 then(l.length,BP (if 0<=nu t then⟨#[122]⟩ else t))
 else if b0.tmod 12=7 then(l.length-j6 b1 l,.mk 4 0 ⟨#[]⟩ [] (cu b1 l))
 else if b0.tmod 12=8\/b0.tmod 12=9\/b0.tmod 12=10 then(l.length-j6 b1 l,lJ b1 (cu b1 l) (cu b1 l).length)
 else(l.length,zeroV)
def Ih(c:List Int)(j:Nat)(l:List V):List V:=
 l.take (yV (c.getD j 0) (c.getD (j+1) 0) (textOf ((c.take (min c.length (j+3))).drop j)) l).1++[(yV (c.getD j 0) (c.getD (j+1) 0) (textOf ((c.take (min c.length (j+3))).drop j)) l).2]
def lK(c:List Int):Nat->List V
 |0=>[]
 |n+1=>Ih c (2*n) (lK c n)
def valOf(c:List Int):V:=.mk 4 0 ⟨#[]⟩ [] (lK c (min (c.length/2) 30))
theorem Dp{α:Type}{l:List α}{i:Nat}{a b:α}(h:b∈eP l i a):b∈l\/b=a:=by
 unfold eP at h
 rcases List.mem_append.1 h with h|h
 ·exact .inl (List.mem_of_mem_take h)
 ·rcases List.mem_cons.1 h with h|h
  ·exact .inr h
  ·exact .inl (List.mem_of_mem_drop h)
theorem Br{x:V}{key:ByteArray}{y:V}{s:ByteArray}(h:s∈(dE x key y).ks):s∈(dS x).ks\/s=key:=by
 unfold dE at h
 split at h
 ·rw[Ag] at h;exact .inl (List.mem_of_mem_take h)
 ·rw[Ag] at h
  rcases Dp h with h|h
  ·exact .inl (List.mem_of_mem_take h)
  ·exact .inr h
theorem qD{x:V}{key:ByteArray}{y v:V}(h:v∈(dE x key y).vs):v∈(dS x).vs\/v=y:=by
 unfold dE at h
 split at h
 ·rw[Ah] at h
  rcases List.mem_or_eq_of_mem_set h with h|h
  ·exact .inl (List.mem_of_mem_take h)
  ·exact .inr h
 ·rw[Ah] at h
  rcases Dp h with h|h
  ·exact .inl (List.mem_of_mem_take h)
  ·exact .inr h
theorem Bt(x:V)(key:ByteArray)(y:V):(dE x key y).ks.length<=(dS x).ks.length+1/\(dE x key y).vs.length<=(dS x).vs.length+1/\(dE x key y).k=5:=by
 have hk:(dS x).k=5:=by unfold dS;split<;>first|assumption|rfl
 have hc:(cutV (dS x)).ks.length<=(dS x).ks.length/\(cutV (dS x)).vs.length<=(dS x).vs.length:=by simp only[cutV,Ag,Ah,List.length_take];omega
 have h1:=GD (cutV (dS x)).ks key
 unfold dE
 split
 ·simp only[Ag,Ah,vk,List.length_set];omega
 ·simp only[Ag,Ah,vk]
  rw[dR _ _ _ h1,dR _ _ _ (by rw[<-rA];exact h1)];omega
theorem Fits.of{x:V}(h1:x.ks.length<=1000000)(h2:x.vs.length<=1000000)(h:∀y∈x.vs,Fits y):Fits x:=by
 obtain⟨k,n,t,ks,vs⟩:=x
 exact .mk k n t ks vs h1 h2 h
theorem sP(b1:Int)(kids:List V)(hk:∀x∈kids,Fits x):∀q,(lJ b1 kids q).k=5/\(lJ b1 kids q).ks.length<=q/\(lJ b1 kids q).vs.length<=q/\(∀s∈(lJ b1 kids q).ks,s.size<=4000000)/\(∀v∈(lJ b1 kids q).vs,Fits v)
 |0=>⟨rfl,Nat.le_refl _,Nat.le_refl _,(by intro s h;cases h),(by intro v h;cases h)⟩
 |q+1=>by
  obtain⟨h0,h1,h2,h3,h4⟩:=sP b1 kids hk q
  have e:dS (lJ b1 kids q)=lJ b1 kids q:=by unfold dS;rw[if_pos h0]
  obtain⟨w1,w2,w3⟩:=Bt (lJ b1 kids q) (ve.getD (zh b1 q) ⟨#[]⟩) (kids.getD q zeroV)
  rw[e] at w1 w2
  refine⟨w3,by show(dE _ _ _).ks.length<=_;omega,by show(dE _ _ _).vs.length<=_;omega,λs hs=>?_,λv hv=>?_⟩
  ·rcases Br hs with h|h
   ·rw[e] at h;exact h3 s h
   ·subst h
    by_cases hi:zh b1 q<ve.length
    ·exact Sb _ (jV hi)
    ·simp only[List.getD,List.getElem?_eq_none (Nat.le_of_not_lt hi)];decide
  ·rcases qD hv with h|h
   ·rw[e] at h;exact h4 v h
   ·subst h
    by_cases hi:q<kids.length
    ·exact hk _ (jV hi)
    ·simp only[List.getD,List.getElem?_eq_none (Nat.le_of_not_lt hi)];exact .mk _ _ _ _ _ (by decide) (by decide) (by simp)
theorem sQ(b1:Int)(kids:List V)(hk:∀x∈kids,Fits x)(q:Nat)(hq:q<=1000000):Fits (lJ b1 kids q):=by
 obtain⟨_,h1,h2,_,h4⟩:=sP b1 kids hk q
 exact Fits.of (by omega) (by omega) h4
theorem M7:Fits zeroV:=.mk _ _ _ _ _ (by decide) (by decide) (by simp)
theorem o9(k n:Int)(t:ByteArray):Fits (.mk k n t [] []):=.mk _ _ _ _ _ (by simp) (by simp) (by simp)
theorem Ii(b0 b1:Int)(t:ByteArray)(l:List V)(hl:l.length<=1000)(h:∀x∈l,Fits x):Fits (yV b0 b1 t l).2/\(yV b0 b1 t l).1<=l.length:=by
 have hk:∀x∈cu b1 l,Fits x:=λx hx=>h x (List.mem_of_mem_drop hx)
 have hkl:(cu b1 l).length<=l.length:=by unfold cu;rw[List.length_drop];omega
 unfold yV
 repeat' split
 ·exact⟨o9 _ _ _,Nat.le_refl _⟩
 ·exact⟨o9 _ _ _,Nat.le_refl _⟩
 ·exact⟨o9 _ _ _,Nat.le_refl _⟩
 ·exact⟨o9 _ _ _,Nat.le_refl _⟩
 ·exact⟨o9 _ _ _,Nat.le_refl _⟩
 ·exact⟨.mk _ _ _ _ _ (by simp) (by omega) hk,Nat.sub_le _ _⟩
 ·exact⟨sQ _ _ hk _ (by omega),Nat.sub_le _ _⟩
 ·exact⟨M7,Nat.le_refl _⟩
theorem zC(c:List Int):∀n,n<=100->(lK c n).length<=n/\∀x∈lK c n,Fits x
 |0,_=>⟨Nat.le_refl _,(by intro x h;cases h)⟩
 |n+1,hn=>by
  obtain⟨h1,h2⟩:=zC c n (by omega)
  have h3:=Ii (c.getD (2*n) 0) (c.getD (2*n+1) 0) (textOf ((c.take (min c.length (2*n+3))).drop (2*n))) (lK c n) (by omega) h2
  refine⟨?_,λx hx=>?_⟩
  ·show(Ih c (2*n) (lK c n)).length<=_
   unfold Ih
   rw[List.length_append,List.length_take];simp only[List.length_singleton];omega
  ·rcases List.mem_append.1 hx with h|h
   ·exact h2 x (List.mem_of_mem_take h)
   ·rw[List.mem_singleton.1 h];exact h3.1
theorem sS(u:ByteArray)(p:Nat)(out:ByteArray){t:ByteArray}{n:Nat}(h:jA u p out=some (t,n)):t.size+4*p<=out.size+4*n:=by
 rw[jA] at h
 split at h
 ·rename_i hp
  split at h
  ·cases h;omega
  ·split at h
   ·split at h
    ·cases h
    ·rename_i r k _
     split at h
     ·have:=sS u _ _ h
      have hb:=nV r
      rw[aY] at this
      omega
     ·cases h
   ·split at h
    ·have:=sS u _ _ h
     rw[aY,ByteArray.size_extract] at this
     omega
    ·cases h
 ·cases h
termination_by u.size-p
theorem M8{u:ByteArray}{t:ByteArray}{n:Nat}(h:gV u=some (t,n)):t.size<=4*u.size:=by
 have hb:=fV h
 unfold gV at h
 split at h
 ·cases h
 ·have:=sS u _ _ h
  have e:(⟨#[]⟩:ByteArray).size=0:=rfl
  omega
def Kept(p:Nat)(w:V):Prop:=w.ks.length<=p/\w.vs.length<=p/\(∀k∈w.ks,k.size<=4000000)/\∀v∈w.vs,Fits v
theorem Kept.fits{p:Nat}{w:V}(h:Kept p w)(hp:p<=1000000):Fits w:=Fits.of (by have:=h.1;omega) (by have:=h.2.1;omega) h.2.2.2
theorem Kept.new(p:Nat)(ob:Bool):Kept p (qP ob):=⟨Nat.zero_le _,Nat.zero_le _,(λk hk=>by cases hk),(λk hk=>by cases hk)⟩
theorem Kept.mono{p q:Nat}{w:V}(h:Kept p w)(hpq:p<=q):Kept q w:=⟨Nat.le_trans h.1 hpq,Nat.le_trans h.2.1 hpq,h.2.2⟩
theorem Kept.add{p q:Nat}{w u:V}(h:Kept p w)(hpq:p<q)(hu:Fits u):Kept q (JJ w u):=by
 obtain⟨k,n,t,ks,vs⟩:=w
 obtain⟨h1,h2,h3,h4⟩:=h
 refine⟨Nat.le_trans h1 (by omega),?_,h3,?_⟩
 ·show(vs++[u]).length<=q
  have:vs.length<=p:=h2
  rw[List.length_append]
  show vs.length+1<=q
  omega
 ·intro v hv
  rcases List.mem_append.1 (show v∈vs++[u] from hv) with h|h
  ·exact h4 v h
  ·rw[List.mem_singleton.1 h];exact hu
theorem Kept.with{p q:Nat}{w u:V}(h:Kept p w)(hpq:p<q){key:ByteArray}(hk:key.size<=4000000)(hu:Fits u):Kept q (dE w key u):=by
 obtain⟨h1,h2,h3,h4⟩:=h
 obtain⟨w1,w2,w3⟩:=Bt w key u
 have ho:(dS w).ks.length<=w.ks.length/\(dS w).vs.length<=w.vs.length/\(∀s∈(dS w).ks,s∈w.ks)/\∀v∈(dS w).vs,v∈w.vs:=by
  unfold dS
  split
  ·exact⟨Nat.le_refl _,Nat.le_refl _,(λ_ h=>h),(λ_ h=>h)⟩
  ·exact⟨Nat.zero_le _,Nat.zero_le _,(λ_ h=>by cases h),(λ_ h=>by cases h)⟩
 obtain⟨o1,o2,o3,o4⟩:=ho
 refine⟨by omega,by omega,λs hs=>?_,λv hv=>?_⟩
 ·rcases Br hs with h|h
  ·exact h3 s (o3 s h)
  ·rw[h];exact hk
 ·rcases qD hv with h|h
  ·exact h4 v (o4 v h)
  ·rw[h];exact hu
theorem M9(n:Int):Fits (qO n):=.mk _ _ _ _ _ (Nat.zero_le _) (Nat.zero_le _) (λx h=>by cases h)
theorem Na{s:ByteArray}{p q:Nat}{v:V}(h:ko s p=.ok q v):Fits v:=by
 unfold ko rG at h
 generalize (if bT s p 45=true then p+1 else p)=a at h
 split at h
 ·cases h
 ·split at h
  ·cases h
  ·split at h
   ·cases h
   ·cases h;exact M9 _
theorem Ko{s:ByteArray}{p q:Nat}{v:V}(h:eG s p=.ok q v):Fits v:=by
 unfold eG at h
 split at h
 ·cases h;exact .mk _ _ _ _ _ (Nat.zero_le _) (Nat.zero_le _) (λx h=>by cases h)
 ·split at h
  ·cases h;exact .mk _ _ _ _ _ (Nat.zero_le _) (Nat.zero_le _) (λx h=>by cases h)
  ·split at h
   ·cases h;exact .mk _ _ _ _ _ (Nat.zero_le _) (Nat.zero_le _) (λx h=>by cases h)
   ·cases h
theorem xw(s:ByteArray)(hs:s.size<=1000000):∀f,(∀p d q v,p<=s.size->fQ s f p d=.ok q v->Fits v)/\(∀p d ob q v,p<s.size->gJ s f p d ob=.ok q v->Fits v)/\
 (∀p d ob w q v,p<=s.size->Kept p w->dP s f p d ob w=.ok q v->Fits v)/\(∀p d w q v,p<=s.size->Kept p w->gM s f p d w=.ok q v->Kept q v)
 |0=>⟨(λp d q v _ h=>by rw[fQ] at h;cases h),(λp d ob q v _ h=>by rw[gJ] at h;cases h),(λp d ob w q v _ _ h=>by rw[dP] at h;cases h),(λp d w q v _ _ h=>by rw[gM] at h;cases h)⟩
 |f+1=>by
  obtain⟨iv,im,il,ip⟩:=xw s hs f
  obtain⟨ov,om,ol,op⟩:=kM s f
  refine⟨λp d q v hp h=>?_,λp d ob q v hp h=>?_,λp d ob w q v hp hw h=>?_,λp d w q v hp hw h=>?_⟩
  ·rw[fQ] at h
   split at h
   ·rename_i hb
    have hlt:p<s.size:=hb.elim bP bP
    split at h
    ·cases h
    ·exact im _ _ _ _ _ hlt h
   ·split at h
    ·split at h
     ·cases h
     ·cases h;exact .mk _ _ _ _ _ (Nat.zero_le _) (Nat.zero_le _) (λx h=>by cases h)
    ·split at h
     ·exact Na h
     ·exact Ko h
  ·rw[gJ] at h
   have h1:=bu s (p+1)
   have h2:=aX s (p+1) (by omega)
   split at h
   ·cases h;exact(Kept.new 0 ob).fits (by omega)
   ·exact il _ _ _ _ _ _ h2 (Kept.new _ ob) h
  ·rw[dP] at h
   split at h
   ·cases h
   ·rename_i q1 v1 he
    have hq:p<q1/\q1<=s.size/\Kept q1 v1:=by
     split at he
     ·have:=op _ _ _ _ _ hp he
      exact⟨this.1,this.2,ip _ _ _ _ _ hp hw he⟩
     ·split at he
      ·cases he
      ·rename_i hv
       cases he
       have:=ov _ _ _ _ hp hv
       exact⟨this.1,this.2,hw.add this.1 (iv _ _ _ _ hp hv)⟩
    have h1:=bu s q1
    have h2:=aX s q1 hq.2.1
    split at h
    ·cases h;exact hq.2.2.fits (by omega)
    ·split at h
     ·rename_i hb
      have:=bP hb
      have h3:=bu s (aC s q1+1)
      have h4:=aX s (aC s q1+1) (by omega)
      exact il _ _ _ _ _ _ h4 (hq.2.2.mono (by omega)) h
     ·cases h
  ·have hq:=kM s (f+1)
   have hq2:=hq.2.2.2 _ _ _ _ _ hp h
   rw[gM] at h
   split at h
   ·cases h
   ·rename_i hu
    have hn:=fV hu
    have hsz:=M8 hu
    rw[ext_size] at hn hsz
    split at h
    ·cases h
    ·split at h
     ·rename_i hb
      have:=bP hb
      split at h
      ·cases h
      ·rename_i n _ _ _ _ hv
       have h3:=bu s (p+n)
       have h4:=bu s (aC s (p+n)+1)
       have h5:=aX s (aC s (p+n)+1) (by omega)
       have:=iv _ _ _ _ h5 hv
       cases h
       exact hw.with hq2.1 (by omega) this
     ·cases h
theorem Kq{s:ByteArray}{p q:Nat}{e:Int}(h:ko s p=.err e q):q=p:=by
 unfold ko rG at h
 generalize (if bT s p 45=true then p+1 else p)=a at h
 split at h
 ·cases h;rfl
 ·split at h
  ·cases h;rfl
  ·split at h
   ·cases h;rfl
   ·cases h
theorem Ij{s:ByteArray}{p q:Nat}{e:Int}(h:eG s p=.err e q):q=p:=by
 unfold eG at h
 split at h
 ·cases h
 ·split at h
  ·cases h
  ·split at h
   ·cases h
   ·cases h;rfl
theorem FO(s:ByteArray):∀f,(∀p d e q,p<=s.size->fQ s f p d=.err e q->q<=s.size)/\(∀p d ob e q,p<s.size->gJ s f p d ob=.err e q->q<=s.size)/\
 (∀p d ob w e q,p<=s.size->dP s f p d ob w=.err e q->q<=s.size)/\(∀p d w e q,p<=s.size->gM s f p d w=.err e q->q<=s.size)
 |0=>⟨(λp d e q _ h=>by rw[fQ] at h;cases h;exact Nat.zero_le _),(λp d ob e q _ h=>by rw[gJ] at h;cases h;exact Nat.zero_le _),(λp d ob w e q _ h=>by rw[dP] at h;cases h;exact Nat.zero_le _),(λp d w e q _ h=>by rw[gM] at h;cases h;exact Nat.zero_le _)⟩
 |f+1=>by
  obtain⟨iv,im,il,ip⟩:=FO s f
  obtain⟨ov,om,ol,op⟩:=kM s f
  refine⟨λp d e q hp h=>?_,λp d ob e q hp h=>?_,λp d ob w e q hp h=>?_,λp d w e q hp h=>?_⟩
  ·rw[fQ] at h
   split at h
   ·rename_i hb
    have hlt:p<s.size:=hb.elim bP bP
    split at h
    ·cases h;exact hp
    ·exact im _ _ _ _ _ hlt h
   ·split at h
    ·split at h
     ·cases h;exact hp
     ·cases h
    ·split at h
     ·rw[Kq h];exact hp
     ·rw[Ij h];exact hp
  ·rw[gJ] at h
   have h1:=bu s (p+1)
   have h2:=aX s (p+1) (by omega)
   split at h
   ·cases h
   ·exact il _ _ _ _ _ _ h2 h
  ·rw[dP] at h
   split at h
   ·rename_i e q1 he
    cases h
    split at he
    ·exact ip _ _ _ _ _ hp he
    ·split at he
     ·rename_i hv;cases he;exact iv _ _ _ _ hp hv
     ·cases he
   ·rename_i q1 v1 he
    have hq:p<q1/\q1<=s.size:=by
     split at he
     ·exact op _ _ _ _ _ hp he
     ·split at he
      ·cases he
      ·rename_i hv
       cases he
       exact ov _ _ _ _ hp hv
    have h1:=bu s q1
    have h2:=aX s q1 hq.2
    split at h
    ·cases h
    ·split at h
     ·rename_i hb
      have:=bP hb
      have h4:=aX s (aC s q1+1) (by omega)
      exact il _ _ _ _ _ _ h4 h
     ·cases h;exact h2
  ·rw[gM] at h
   split at h
   ·cases h;exact hp
   ·rename_i hu
    have hn:=fV hu
    rw[ext_size] at hn
    split at h
    ·cases h;exact hp
    ·split at h
     ·rename_i hb
      have:=bP hb
      split at h
      ·rename_i n _ _ _ _ hv
       have h5:=aX s (aC s (p+n)+1) (by omega)
       cases h
       exact iv _ _ _ _ h5 hv
      ·cases h
     ·rename_i n _ _ _
      cases h;exact aX s _ (by omega)
end Go.Proofs.YtbooeongacgnbaaGreatDoor
end
